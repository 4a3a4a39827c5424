/- Layer 15: the contract of check. -/
import Derived.Test.YtoechplbhbalaaaOutoN16
import Derived.KernelRfl
import Derived.Test.YtoechplbhbalaaaProg
import Derived.Shelf.Slices.Delete
set_option linter.all false
set_option maxRecDepth 100000
set_option maxHeartbeats 0
noncomputable section
open Go
namespace Sx
theorem runEv_step {n : Nat} {l : List Ev} {i : Nat} (hi : i < l.length) (h0 : (runEv n l i).1 = 0) : runEv n l (i + 1) = evStep n i (runEv n l i).2 l[i] := by
 have hl : l[i]? = some l[i] := List.getElem?_eq_getElem hi
 simp only [runEv,hl]
 rw [if_neg (by simp [h0])]
theorem runEv_stop {n : Nat} {l : List Ev} {i : Nat} (h : (runEv n l i).1 ≠ 0) : ∀ k,runEv n l (i + k) = runEv n l i
 | 0=>rfl
 | k + 1=>by
  have ih := runEv_stop h k
  show runEv n l ((i + k) + 1) = _
  simp only [runEv]
  rw [ih,if_pos h]
theorem checkH_sz {h : Hist} (h1 : sizesErr h.sizes ≠ 0) : checkH h = (sizesErr h.sizes,zTl) := by unfold checkH; rw [if_pos h1]
theorem checkH_many {h : Hist} (h1 : sizesErr h.sizes = 0) (h2 : h.writes.length > 4096) : checkH h = (6,zTl) := by unfold checkH; rw [if_neg (by simp [h1]),if_pos h2]
theorem checkH_fit {h : Hist} (h1 : sizesErr h.sizes = 0) (h2 : ¬h.writes.length > 4096) (h3 : firstErr h.sizes h.writes ≠ 0) : checkH h = (firstErr h.sizes h.writes,zTl) := by
 unfold checkH; rw [if_neg (by simp [h1]),if_neg h2,if_pos h3]
theorem checkH_ev {h : Hist} (h1 : sizesErr h.sizes = 0) (h2 : ¬h.writes.length > 4096) (h3 : firstErr h.sizes h.writes = 0) : checkH h =
  if (runEv h.writes.length h.events h.events.length).1 ≠ 0 then ((runEv h.writes.length h.events h.events.length).1,zTl)
  else if (runEv h.writes.length h.events h.events.length).2.issued.length < h.writes.length then (3,zTl)
  else (0,(runEv h.writes.length h.events h.events.length).2) := by
 unfold checkH; rw [if_neg (by simp [h1]),if_neg h2,if_neg (by simp [h3])]
theorem checkH_evErr {h : Hist} (h1 : sizesErr h.sizes = 0) (h2 : ¬h.writes.length > 4096) (h3 : firstErr h.sizes h.writes = 0) {i : Nat} (hi : i < h.events.length) (h0 : (runEv h.writes.length h.events i).1 = 0) {k : Int}
  (hk : (evStep h.writes.length i (runEv h.writes.length h.events i).2 h.events[i]).1 = k) (hk0 : k ≠ 0) : checkH h = (k,zTl) := by
 have hs := runEv_step (n := h.writes.length) hi h0
 have hne : (runEv h.writes.length h.events (i + 1)).1 ≠ 0 := by rw [hs,hk]; exact hk0
 obtain ⟨d,hd⟩ := Nat.exists_eq_add_of_le (show i + 1 ≤ h.events.length by omega)
 have hst := runEv_stop hne d
 rw [← hd] at hst
 rw [checkH_ev h1 h2 h3,hst,if_pos hne,hs,hk]
def onOk (e : Int) (d : D) : D := if e = 0 then d else .slc none 0 []
theorem onOk_ok (d : D) : onOk 0 d = d := if_pos rfl
theorem onOk_bad {e : Int} (h : e ≠ 0) (d : D) : onOk e d = .slc none 0 [] := if_neg h
def ckSV (x : HiD) (ds : Nat → D) : SV := .tup [.agg [.dat (onOk (checkH x.hist).1 x.s),.dat (onOk (checkH x.hist).1 x.w),.dat (onOk (checkH x.hist).1 x.e),.dat ((ds 0).like (checkH x.hist).2.issued),.dat ((ds 1).like (checkH x.hist).2.acked)],.int .i64 (checkH x.hist).1]
def spCk (x : HiD) : SpecR := .data [x.Right] (ckSV x)
section
variable {P : Program} {w : World} {H : HV}
theorem ret_ck0 {x : HiD} {e : Int} (h : checkH x.hist = (e,zTl)) (he : e ≠ 0) : (Tree.ret (.tup [.agg [.nils,.nils,.nils,.nils,.nils],.int .i64 e])).holds P ⟨w,H⟩ (RetD w H (ckSV x)) := by
 have hn : (D.slc none 0 []).Is Int := is_nil _ _
 have e1 : (D.slc none 0 []).like (zTl.issued) = D.slc none 0 [] := D.like_self hn rfl
 have e2 : (D.slc none 0 []).like (zTl.acked) = D.slc none 0 [] := D.like_self hn rfl
 have hz : ∀ H',(D.slc none 0 []).Ok H' ∧ (D.slc none 0 []).IsSlc := fun H'=>⟨.nil 0,_,_,_,rfl⟩
 refine ret_D (fun _=>.slc none 0 []) (fun E E'=>?_) (fun H' ho=>?_)
 ·simp only [ckSV,h,onOk_bad he,e1,e2]; simp [SV.den,SV.denL,D.val,hval]
 ·simp only [ckSV,h,onOk_bad he,e1,e2,SV.Ok,SV.OkL]; exact ⟨⟨hz H',hz H',hz H',hz H',hz H',trivial⟩,trivial,trivial⟩
theorem ret_ck1 {x : HiD} {t u : D} (ht : t.Is Int) (hu : u.Is Int) (h : checkH x.hist = (0,⟨t.to Int,u.to Int⟩)) : (Tree.ret (.tup [.agg [.dat x.s,.dat x.w,.dat x.e,.dat t,.dat u],.int .i64 0])).holds P ⟨w,H⟩ (RetD w H (ckSV x)) := by
 refine ret_D (fun i=>match i with | 0=>t | _=>u) (fun E E'=>?_) (fun H' ho=>?_)
 ·simp only [ckSV,h,onOk_ok,D.like_self ht rfl,D.like_self hu rfl]; simp [SV.den,SV.denL]
 ·simp only [ckSV,h,onOk_ok,D.like_self ht rfl,D.like_self hu rfl]; exact ho
end
def hiSV (ds : Nat → D) (h : Hist) : SV := .agg [.dat ((ds 0).like h.sizes),.dat ((ds 1).like h.writes),.dat ((ds 2).like h.events)]
def spCopy (x : HiD) : SpecR := .data [x.Right] fun ds=>hiSV ds x.hist
theorem slc_same {α : Type} [Codec α] {d : D} (h : d.Is α) (hd : Hd) {s : Nat} (hs : s = Codec.sz α) : (D.slc hd s d.rows).Is α ∧ (D.slc hd s d.rows).to α = d.to α := is_of hs (rows_of h)
section
variable {P : Program} {w : World} {H : HV}
theorem ret_hi {X Y Z : SV} {s : List Int} {ws : List Wt} {es : List Ev} {h : Hist} (hx : Stands Int X s) (hy : Stands Wt Y ws) (hz : Stands Ev Z es) (e : h = ⟨s,ws,es⟩) :
  (Tree.ret (.agg [X,Y,Z])).holds P ⟨w,H⟩ (RetD w H fun ds=>hiSV ds h) := by
 subst e
 obtain ⟨d,h1,h2,h3,h4⟩ := hx
 obtain ⟨d',h1',h2',h3',h4'⟩ := hy
 obtain ⟨d'',h1'',h2'',h3'',h4''⟩ := hz
 refine ret_D (fun i=>match i with | 0=>d | 1=>d' | _=>d'') (fun E E'=>?_) (fun H' ho=>?_)
 ·simp only [hiSV,SV.den,SV.denL,D.like_self h2 h3,D.like_self h2' h3',D.like_self h2'' h3'',h1,h1',h1'']
 ·simp only [hiSV,SV.Ok,SV.OkL,D.like_self h2 h3,D.like_self h2' h3',D.like_self h2'' h3''] at ho ⊢
  exact ⟨⟨h4 _ ho.1,h2.slc⟩,⟨h4' _ ho.2.1,h2'.slc⟩,⟨h4'' _ ho.2.2.1,h2''.slc⟩,trivial⟩
theorem ret_hiI {X Y Z : SV} {s : List Int} {ws : List Wt} {es : List Ev} {h : Hist} {k k' : Int} (hx : Stands Int X s) (hy : Stands Wt Y ws) (hz : Stands Ev Z es) (e : h = ⟨s,ws,es⟩) (hk : k = k') :
  (Tree.ret (.tup [.agg [X,Y,Z],.int .i64 k])).holds P ⟨w,H⟩ (RetD w H fun ds=>.tup [hiSV ds h,.int .i64 k']) := by
 subst e; subst hk
 obtain ⟨d,h1,h2,h3,h4⟩ := hx
 obtain ⟨d',h1',h2',h3',h4'⟩ := hy
 obtain ⟨d'',h1'',h2'',h3'',h4''⟩ := hz
 refine ret_D (fun i=>match i with | 0=>d | 1=>d' | _=>d'') (fun E E'=>?_) (fun H' ho=>?_)
 ·simp only [hiSV,SV.den,SV.denL,D.like_self h2 h3,D.like_self h2' h3',D.like_self h2'' h3'',h1,h1',h1'']
 ·simp only [hiSV,SV.Ok,SV.OkL,D.like_self h2 h3,D.like_self h2' h3',D.like_self h2'' h3''] at ho ⊢
  exact ⟨⟨⟨h4 _ ho.1.1,h2.slc⟩,⟨h4' _ ho.1.2.1,h2'.slc⟩,⟨h4'' _ ho.1.2.2.1,h2''.slc⟩,trivial⟩,trivial,trivial⟩
theorem ret_hiII {X Y Z : SV} {s : List Int} {ws : List Wt} {es : List Ev} {h : Hist} {k k' m m' : Int} (hx : Stands Int X s) (hy : Stands Wt Y ws) (hz : Stands Ev Z es) (e : h = ⟨s,ws,es⟩) (hk : k = k') (hm : m = m') :
  (Tree.ret (.tup [.agg [X,Y,Z],.int .i64 k,.int .i64 m])).holds P ⟨w,H⟩ (RetD w H fun ds=>.tup [hiSV ds h,.int .i64 k',.int .i64 m']) := by
 subst e; subst hk; subst hm
 obtain ⟨d,h1,h2,h3,h4⟩ := hx
 obtain ⟨d',h1',h2',h3',h4'⟩ := hy
 obtain ⟨d'',h1'',h2'',h3'',h4''⟩ := hz
 refine ret_D (fun i=>match i with | 0=>d | 1=>d' | _=>d'') (fun E E'=>?_) (fun H' ho=>?_)
 ·simp only [hiSV,SV.den,SV.denL,D.like_self h2 h3,D.like_self h2' h3',D.like_self h2'' h3'',h1,h1',h1'']
 ·simp only [hiSV,SV.Ok,SV.OkL,D.like_self h2 h3,D.like_self h2' h3',D.like_self h2'' h3''] at ho ⊢
  exact ⟨⟨⟨h4 _ ho.1.1,h2.slc⟩,⟨h4' _ ho.1.2.1,h2'.slc⟩,⟨h4'' _ ho.1.2.2.1,h2''.slc⟩,trivial⟩,trivial,trivial,trivial⟩
end
def zHist : Hist := ⟨[],[],[]⟩
def newH (s : List Int) : Hist × Int := if sizesErr s ≠ 0 then (zHist,sizesErr s) else (⟨s,[],[]⟩,0)
def spNewH (x : D) : SpecR := .data [x.Is Int ∧ x.len ≤ 1048576] fun ds=>.tup [hiSV ds (newH (x.to Int)).1,.int .i64 (newH (x.to Int)).2]
def issueH (h : Hist) (w : Wt) : Hist × Int × Int :=
 if (checkH h).1 ≠ 0 then (zHist,0,(checkH h).1) else if h.writes.length ≥ 4096 then (zHist,0,6)
 else if fitsErr h.sizes w ≠ 0 then (zHist,0,fitsErr h.sizes w) else (⟨h.sizes,h.writes ++ [w],h.events ++ [⟨0,h.writes.length⟩]⟩,h.writes.length,0)
def spIssueH (x : HiD × WtD) : SpecR := .data [x.1.Right ∧ x.1.e.len ≤ 1000000 ∧ x.2.Ok] fun ds=>.tup [hiSV ds (issueH x.1.hist x.2.wt).1,.int .i64 (issueH x.1.hist x.2.wt).2.1,.int .i64 (issueH x.1.hist x.2.wt).2.2]
def ackH (h : Hist) (n : Int) : Hist × Int :=
 if (checkH h).1 ≠ 0 then (zHist,(checkH h).1) else if n < 0 ∨ n ≥ h.writes.length then (zHist,7)
 else if atEv h.events ⟨1,n⟩ ≥ 0 then (zHist,8) else (⟨h.sizes,h.writes,h.events ++ [⟨1,n⟩]⟩,0)
def spAckH (x : HiD × Int) : SpecR := .data [x.1.Right ∧ x.1.e.len ≤ 1000000] fun ds=>.tup [hiSV ds (ackH x.1.hist x.2).1,.int .i64 (ackH x.1.hist x.2).2]
theorem issueH_e1 {h : Hist} {x : Wt} (h1 : (checkH h).1 ≠ 0) : issueH h x = (zHist,0,(checkH h).1) := by unfold issueH; rw [if_pos h1]
theorem issueH_e2 {h : Hist} {x : Wt} (h1 : ¬((checkH h).1 ≠ 0)) (h2 : h.writes.length ≥ 4096) : issueH h x = (zHist,0,6) := by unfold issueH; rw [if_neg h1,if_pos h2]
theorem issueH_e3 {h : Hist} {x : Wt} (h1 : ¬((checkH h).1 ≠ 0)) (h2 : ¬h.writes.length ≥ 4096) (h3 : fitsErr h.sizes x ≠ 0) : issueH h x = (zHist,0,fitsErr h.sizes x) := by unfold issueH; rw [if_neg h1,if_neg h2,if_pos h3]
theorem issueH_ok {h : Hist} {x : Wt} (h1 : ¬((checkH h).1 ≠ 0)) (h2 : ¬h.writes.length ≥ 4096) (h3 : ¬(fitsErr h.sizes x ≠ 0)) : issueH h x = (Hist.mk h.sizes (h.writes ++ [x]) (h.events ++ [Ev.mk 0 h.writes.length]),(h.writes.length : Int),(0 : Int)) := by
 unfold issueH; rw [if_neg h1,if_neg h2,if_neg h3]
theorem ackH_e1 {h : Hist} {n : Int} (h1 : (checkH h).1 ≠ 0) : ackH h n = (zHist,(checkH h).1) := by unfold ackH; rw [if_pos h1]
theorem ackH_e7 {h : Hist} {n : Int} (h1 : ¬((checkH h).1 ≠ 0)) (h2 : n < 0 ∨ n ≥ h.writes.length) : ackH h n = (zHist,7) := by unfold ackH; rw [if_neg h1,if_pos h2]
theorem ackH_e8 {h : Hist} {n : Int} (h1 : ¬((checkH h).1 ≠ 0)) (h2 : ¬(n < 0 ∨ n ≥ h.writes.length)) (h3 : atEv h.events ⟨1,n⟩ ≥ 0) : ackH h n = (zHist,8) := by unfold ackH; rw [if_neg h1,if_neg h2,if_pos h3]
theorem ackH_ok {h : Hist} {n : Int} (h1 : ¬((checkH h).1 ≠ 0)) (h2 : ¬(n < 0 ∨ n ≥ h.writes.length)) (h3 : ¬(atEv h.events ⟨1,n⟩ ≥ 0)) : ackH h n = (Hist.mk h.sizes h.writes (h.events ++ [Ev.mk 1 n]),(0 : Int)) := by
 unfold ackH; rw [if_neg h1,if_neg h2,if_neg h3]
theorem img_ok {l : List Int} (h1 : sizesErr l = 0) (d : D) : ImgOk (d.like (imgOf l)) := by
 refine ⟨D.like_is _ _,?_,fun v hv=>?_⟩
 ·rw [D.Is.length (α := Vol),D.like_to]
  unfold imgOf
  rw [if_neg (by simp [h1])]
  have := sizesErr_ok h1
  simp only [List.length_map]; omega
 ·rw [D.like_to] at hv
  unfold imgOf at hv
  rw [if_neg (by simp [h1])] at hv
  obtain ⟨n,hn,rfl⟩ := List.mem_map.1 hv
  have := (sizesErr_ok h1).2.2 n hn
  simp only [volOf,List.length_replicate]; omega
def likeSz (d : D) (l : List Int) : D := d.like l
def likeWr (d : D) (l : List Wt) : D := d.like l
def likeEv (d : D) (l : List Ev) : D := d.like l
def hiY (ds : Nat → D) (h : Hist) : SV := .agg [.dat (likeSz (ds 0) h.sizes),.dat (likeWr (ds 1) h.writes),.dat (likeEv (ds 2) h.events)]
def spNewY (x : D) : SpecR := .data [x.Is Int ∧ x.len ≤ 1048576] fun ds=>.tup [hiY ds (newH (x.to Int)).1,.int .i64 (newH (x.to Int)).2]
def mbAt (mb : D) (i : Nat) : MbD := MbD.mk (mb.getInt i 0) (mb.getInt i 1) (mb.getInt i 2) (mb.getInt i 3) (mb.getBool i 4) (mb.getInt i 5) (mb.cell i 6) (mb.cell i 7)
def mbRow (a b : D) (m : Mb) : List D := [.int .i64 m.round,.int .i64 m.position,.int .i64 m.thawed,.int .i64 m.issued,.bool m.frozen,.int .i64 m.upto,a.like m.waiting,b.like m.held]
def hiOf (zd wd ed : D) (h : Hist) : HiD := HiD.mk (likeSz zd h.sizes) (likeWr wd h.writes) (likeEv ed h.events)
def wtOf (d : D) (i k : Int) : WtD := WtD.mk 0 i (.slc d.hd 8 [[.int .u8 (IntKind.u8.wrap (IntKind.i64.wrap (i + 1))),.int .u8 (IntKind.u8.wrap k),.int .u8 0,.int .u8 0,.int .u8 0,.int .u8 0,.int .u8 0,.int .u8 0]])
def ndI (v : Int) (d : D) : Int := Int.tmod (if v > 0 then v else 0) (d.len : Int)
def msAt (d : D) (i : Nat) : MsgD := MsgD.mk (d.getInt i 0) (d.getInt i 1) (d.getInt i 2) (d.getInt i 3) (d.getInt i 4) (d.getInt i 5) (d.cell i 6) (d.cell i 7)
def coOf (pd sd : D) (c : Co) : CoD := CoD.mk c.nodes c.round c.phase c.deadline (pd.like c.positions) (sd.like c.seen) c.valid
def mbCells (a b : D) (m : Mb) : List SV := [.int .i64 m.round,.int .i64 m.position,.int .i64 m.thawed,.int .i64 m.issued,.bool m.frozen,.int .i64 m.upto,.dat (a.like m.waiting),.dat (b.like m.held)]
instance : Codec Mb where
 sz := 8
 ok r := ∃ a b c d f u w h,r = [.int .i64 a,.int .i64 b,.int .i64 c,.int .i64 d,.bool f,.int .i64 u,w,h] ∧ w.Is Int ∧ h.Is Int
 dec r := match r with | [.int _ a,.int _ b,.int _ c,.int _ d,.bool f,.int _ u,w,h]=>⟨a,b,c,d,f,u,w.to Int,h.to Int⟩ | _=>⟨0,0,0,0,false,0,[],[]⟩
 enc m := [.int .i64 m.round,.int .i64 m.position,.int .i64 m.thawed,.int .i64 m.issued,.bool m.frozen,.int .i64 m.upto,encD m.waiting,encD m.held]
 ok_enc m := ⟨_,_,_,_,_,_,_,_,rfl,encD_is _,encD_is _⟩
 dec_enc m := by simp only [encD_to]
 len r := by rintro ⟨_,_,_,_,_,_,_,_,rfl,_⟩; rfl
theorem mb_cell {d : D} (h : d.Is Mb) {i : Nat} (hi : i < (d.to Mb).length) : d.HasCells i 0 [.int .i64,.int .i64,.int .i64,.int .i64,.bool,.int .i64,.slc,.slc] ∧ (mbAt d i).mb = (d.to Mb)[i] ∧ (mbAt d i).w.Is Int ∧ (mbAt d i).h.Is Int := by
 obtain ⟨r,h1,⟨a,b,c,e,f,u,w,x,rfl,hw,hx⟩,h3⟩ := h.row hi
 have e6 : d.cell i 6 = w := by simp [D.cell,D.cellAt,h1]
 have e7 : d.cell i 7 = x := by simp [D.cell,D.cellAt,h1]
 refine ⟨?_,?_,?_,?_⟩
 ·obtain ⟨p,q,s,rfl⟩ := hw.slc
  obtain ⟨p',q',s',rfl⟩ := hx.slc
  simp [D.HasCells,D.HasCell,D.cellAt,h1]
 ·rw [h3]
  simp [mbAt,MbD.mb,D.getInt,D.getBool,D.cellAt,e6,e7,h1,Codec.dec]
 ·simp only [mbAt,e6]; exact hw
 ·simp only [mbAt,e7]; exact hx
theorem mb_row (a b : D) (m : Mb) : Codec.ok Mb (mbRow a b m) ∧ Codec.dec (mbRow a b m) = m :=
 ⟨⟨_,_,_,_,_,_,_,_,rfl,D.like_is _ _,D.like_is _ _⟩,by simp only [mbRow,Codec.dec,D.like_to]⟩
theorem mb_set {d : D} (hd : d.Is Mb) {i : Nat} (hi : i < (d.to Mb).length) (a b : D) (m : Mb) : (d.setCells i 0 (mbRow a b m)).Is Mb ∧ (d.setCells i 0 (mbRow a b m)).sz = 8 ∧ (d.setCells i 0 (mbRow a b m)).to Mb = (d.to Mb).set i m := by
 have hz := hd.size hi
 have hr := rows_of hd
 have hl := rows_len hr
 have e : cutIn (d.rows.getD i []) 0 (mbRow a b m) = mbRow a b m := by
  have h1 : d.rows.getD i [] = d.rows[i] := by simp [hl,hi]
  have h2 : d.rows[i].length = 8 := Codec.len (α := Mb) d.rows[i] (hr.1 _ (List.getElem_mem _))
  rw [h1]
  simp only [cutIn,mbRow,List.take_zero,List.nil_append,Nat.zero_add,List.length_cons,List.length_nil]
  rw [List.drop_of_length_le (by omega)]
  simp
 have := is_of (α := Mb) (h := d.hd) (s := d.sz) (rows := d.rows.set i (mbRow a b m)) (xs := (d.to Mb).set i m) hz ⟨fun r hr'=>by
  rcases List.mem_or_eq_of_mem_set hr' with h | h
  ·exact hr.1 r h
  ·rw [h]; exact (mb_row a b m).1,by rw [List.map_set,hr.2,(mb_row a b m).2]⟩
 unfold D.setCells
 rw [e]
 exact ⟨this.1,hz,this.2⟩
structure Sch where
 k : Int
 n : Int
 w : Int
instance : Codec Sch where
 sz := 3
 ok r := ∃ a b c,r = [.int .i64 a,.int .i64 b,.int .i64 c]
 dec r := match r with | [.int _ a,.int _ b,.int _ c]=>⟨a,b,c⟩ | _=>⟨0,0,0⟩
 enc c := [.int .i64 c.k,.int .i64 c.n,.int .i64 c.w]
 ok_enc c := ⟨_,_,_,rfl⟩
 dec_enc c := rfl
 len r := by rintro ⟨_,_,_,rfl⟩; rfl
theorem sch_cell {d : D} (h : d.Is Sch) {i : Nat} (hi : i < (d.to Sch).length) : d.HasCells i 0 [.int .i64,.int .i64,.int .i64] := by
 obtain ⟨r,h1,⟨a,b,c,rfl⟩,h3⟩ := h.row hi
 have e : ∀ j,d.cellAt i j = ([.int .i64 a,.int .i64 b,.int .i64 c] : List D)[j]? := fun j=>by simp [D.cellAt,h1]
 simp only [D.HasCells,D.HasCell,e]
 exact ⟨⟨_,rfl⟩,⟨_,rfl⟩,⟨_,rfl⟩,trivial⟩
abbrev tsSch : List TS := [tsJ,tsJ,tsJ]
theorem shSchs {d : D} (h : TS.Sh (.slc (.st tsSch)) [d]) : d.Is Sch ∧ d.IsSlc ∧ d.len ≤ maxLen := shSl rfl (fun r hr=>by
 simp only [TS.Sh,tsSch,TS.ShL] at hr
 obtain ⟨_,_,rfl,h1,_,_,rfl,h2,_,_,rfl,h3,rfl⟩ := hr
 obtain ⟨a,rfl⟩ := shJ h1
 obtain ⟨b,rfl⟩ := shJ h2
 obtain ⟨c,rfl⟩ := shJ h3
 exact ⟨_,_,_,rfl⟩) h
end Sx
end
noncomputable section
open Go Go.Proofs Sx
namespace Sv.B21
def intsL (a b : D) (j : Int) : Conf := Conf.mk (SFrm.mk 23 none none [Item.inLoop (cAt Try.prog 23 [1,1,0,1,0,0]),Item.inBlock 0,Item.code (cAt Try.prog 23 [1,1,1])]
 (mkJ 0 [(0,.dat a),(1,.dat b),(5,.int .i64 j)] 0 26)) [] []
def idxL (d : D) (j : Int) : Conf := Conf.mk (SFrm.mk 80 none none [Item.inLoop (cAt Try.prog 80 [1,0,1,0,0]),Item.inBlock 0,Item.code (cAt Try.prog 80 [1,1])]
 (mkJ 0 [(0,.dat d),(1,.fn 53 [] []),(7,.int .i64 d.len),(8,.int .i64 j)] 0 19)) [] []
def cc2L (nodes round phase deadline : Int) (d s : D) (v : SV) (j : Int) : Conf := Conf.mk (SFrm.mk 18 none none [Item.inLoop (cAt Try.prog 18 [1,1,1,0,1,0,0]),Item.inBlock 0,Item.code (cAt Try.prog 18 [1,1,1,1])]
 (mkJ 0 [(1,.ptr 0 0),(3,.int .i64 j)] 0 85)) [] [(0,.cells 25 [.int .i64 nodes,.int .i64 round,.int .i64 phase,.int .i64 deadline,.dat d,.dat s,v])]
abbrev _root_.Sv.cA (f : FuncId) (p : List Nat) := cAt Try.prog f p
abbrev _root_.Sv.oA (f : FuncId) (p : List Nat) := opsAt Try.prog f p
section
variable (n j : Int) (v : SV) (a b d s : D) (nodes round phase deadline now patience : Int) (valid : Bool)
theorem new1_in : exec Try.prog [] 200 (entry Try.prog 19 [.int .i64 n]) =
 Tree.br (decide (n < 1))
 (.ret
 (SV.tup
 [.agg
 [.int .i64 0,.int .i64 0,.int .i64 0,.int .i64 0,.nils,.nils,
 .lb false],
 .int .i64 2]))
 (.br (decide (n > 8))
 (.ret
 (SV.tup
 [.agg
 [.int .i64 0,.int .i64 0,.int .i64 0,.int .i64 0,.nils,.nils,
 .lb false],
 .int .i64 2]))
 (.all fun hs =>
 .need (0 ≤ n ∧ n = n ∧ (↑8 : Int) * n ≤ 281474976710656 ∧ n ≤ 9223372036854775807)
 (.need (0 ≤ n ∧ n = n ∧ (↑1 : Int) * n ≤ 281474976710656 ∧ n ≤ 9223372036854775807)
 (.ret
 (SV.tup
 [.agg
 [.int .i64 n,.int .i64 0,.int .i64 0,.int .i64 0,
 .dat (D.slc (D.hd (hs 2 0)) 1 (List.replicate (Int.toNat n) [D.int .i64 0])),
 .dat (D.slc (D.hd (hs 4 0)) 1 (List.replicate (Int.toNat n) [D.bool false])),.lb false],
 .int .i64 0]))))) := by kernel_rfl
theorem new2_in : exec Try.prog [] 200 (entry Try.prog 20 [.int .i64 n]) =
 Tree.br (decide (n < 1))
 (.ret
 (SV.tup
 [.agg
 [.int .i64 0,.int .i64 0,.int .i64 0,.int .i64 0,.nils,.nils,
 .lb false],
 .int .i64 2]))
 (.br (decide (n > 8))
 (.ret
 (SV.tup
 [.agg
 [.int .i64 0,.int .i64 0,.int .i64 0,.int .i64 0,.nils,.nils,
 .lb false],
 .int .i64 2]))
 (.all fun hs =>
 .need (0 ≤ n ∧ n = n ∧ (↑8 : Int) * n ≤ 281474976710656 ∧ n ≤ 9223372036854775807)
 (.need (0 ≤ n ∧ n = n ∧ (↑1 : Int) * n ≤ 281474976710656 ∧ n ≤ 9223372036854775807)
 (.ret
 (SV.tup
 [.agg
 [.int .i64 n,.int .i64 0,.int .i64 0,.int .i64 0,
 .dat (D.slc (D.hd (hs 2 0)) 1 (List.replicate (Int.toNat n) [D.int .i64 0])),
 .dat (D.slc (D.hd (hs 4 0)) 1 (List.replicate (Int.toNat n) [D.bool false])),.lb false],
 .int .i64 0]))))) := by kernel_rfl
theorem ints_in : exec Try.prog [] 200 (entry Try.prog 23 [.dat a,.dat b]) =
 Tree.br ((↑(D.len a) : Int) != (↑(D.len b) : Int)) (.ret (.lb false))
 (.leaf
 (Conf.mk
 (SFrm.mk 23 none none
 [Item.inLoop (cAt Try.prog 23 [1,1,0,1,0,0]),Item.inBlock 0,Item.code (cAt Try.prog 23 [1,1,1])]
 (mkJ 0 [(0,.dat a),(1,.dat b),(5,.int .i64 0)] 0 26))
 [] [])) := by kernel_rfl
theorem idx_in : exec Try.prog [] 200 (entry Try.prog 80 [.dat d,.fn 53 [] []]) =
 Tree.leaf
 (Conf.mk
 (SFrm.mk 80 none none
 [Item.inLoop (cAt Try.prog 80 [1,0,1,0,0]),Item.inBlock 0,Item.code (cAt Try.prog 80 [1,1])]
 (mkJ 0 [(0,.dat d),(1,SV.fn 53 [] []),(7,.int .i64 (↑(D.len d) : Int)),(8,.int .i64 0)]
 0 19))
 [] []) := by kernel_rfl
theorem any_in : exec Try.prog [(80,ctrOf ((rdD.two (rdFn 53)).sp spIdxBadC))] 200 (entry Try.prog 52 [.dat d,.fn 53 [] []]) =
 Tree.need (D.Is Int d ∧ D.len d ≤ 1048576) (.ret (.bool (decide (idxP (D.to Int d) badPos ≥ 0)))) := by kernel_rfl
theorem cc1_in : 
 let z2 : Tree := (.need (D.Is Int d ∧ D.len d ≤ 1048576) (.br (List.any (D.to Int d) badPos) (.ret (.int .i64 3)) (.ret (.int .i64 0))))
 let z1 : Tree := (.br ((↑(D.len d) : Int) != nodes) (.br ((↑(D.len d) : Int) != nodes) (.ret (.int .i64 3)) z2) (.br ((↑(D.len s) : Int) != nodes) (.br ((↑(D.len s) : Int) != nodes) (.ret (.int .i64 3)) z2) (.br valid (.br (phase != 0) (.ret (.int .i64 3)) z2) z2)))
 exec Try.prog [(52,ctrOf ((rdD.two (rdFn 53)).sp spAnyBadC))] 300 (entry Try.prog 17 [.agg [.int .i64 nodes,.int .i64 round,.int .i64 phase,.int .i64 deadline,.dat d,.dat s,.bool valid]]) =
 Tree.br (decide (nodes < 1)) (.br (decide (nodes < 1)) (.ret (.int .i64 3)) z1) (.br (decide (nodes > 8)) (.br (decide (nodes > 8)) (.ret (.int .i64 3)) z1) (.br (decide (round ≥ 0)) (.br (!decide (round ≤ 1073741824))
 (.br (!decide (round ≤ 1073741824)) (.ret (.int .i64 3)) z1) (.br (decide (deadline ≥ 0)) (.br (!decide (deadline ≤ 1073741824)) (.br (!decide (deadline ≤ 1073741824)) (.ret (.int .i64 3)) z1) (.br (decide
 (phase < 0)) (.br (decide (phase < 0)) (.ret (.int .i64 3)) z1) (.br (decide (phase > 2)) (.ret (.int .i64 3)) z1))) (.ret (.int .i64 3)))) (.ret (.int .i64 3)))) := by
 intros; kernel_rfl
theorem cc2_in : exec Try.prog [] 300 (entry Try.prog 18 [.agg [.int .i64 nodes,.int .i64 round,.int .i64 phase,.int .i64 deadline,.dat d,.dat s,.bool valid]]) =
 Tree.br (decide (nodes < 1)) (.ret (.int .i64 3))
 (.br (decide (nodes > 8)) (.ret (.int .i64 3))
 (.br (decide (round < 0)) (.ret (.int .i64 3))
 (.br (decide (round > 1073741824)) (.ret (.int .i64 3))
 (.br (decide (deadline < 0)) (.ret (.int .i64 3))
 (.br (decide (deadline > 1073741824)) (.ret (.int .i64 3))
 (.br (decide (phase < 0)) (.ret (.int .i64 3))
 (.br (decide (phase > 2)) (.ret (.int .i64 3))
 (.br ((↑(D.len d) : Int) != nodes) (.ret (.int .i64 3))
 (.br ((↑(D.len s) : Int) != nodes) (.ret (.int .i64 3))
 (.br valid
 (.br (phase != 0) (.ret (.int .i64 3))
 (.leaf
 (Conf.mk
 (SFrm.mk 18 none none
 [Item.inLoop (cAt Try.prog 18 [1,1,1,0,1,0,0]),Item.inBlock 0,
 Item.code (cAt Try.prog 18 [1,1,1,1])]
 (mkJ 0 [(1,.ptr 0 0),(3,.int .i64 0)] 0 85))
 []
 [(0,
 OBlk.cells 25
 [.int .i64 nodes,.int .i64 round,.int .i64 phase,
 .int .i64 deadline,.dat d,.dat s,.bool valid])])))
 (.leaf
 (Conf.mk
 (SFrm.mk 18 none none
 [Item.inLoop (cAt Try.prog 18 [1,1,1,0,1,0,0]),Item.inBlock 0,
 Item.code (cAt Try.prog 18 [1,1,1,1])]
 (mkJ 0 [(1,.ptr 0 0),(3,.int .i64 0)] 0 85))
 []
 [(0,
 OBlk.cells 25
 [.int .i64 nodes,.int .i64 round,.int .i64 phase,
 .int .i64 deadline,.dat d,.dat s,.bool valid])])))))))))))) := by kernel_rfl
theorem ints_go : exec Try.prog [] 200 (unroll (intsL a b j)) =
 Tree.br (decide (j < (↑(D.len a) : Int)))
 (.all fun hs =>
 .need (0 ≤ j ∧ j < (↑(D.len a) : Int) ∧ D.sz a = 1)
 (.need (D.HasCell a (Int.toNat j) 0 (FT.int .i64))
 (.need (0 ≤ j ∧ j < (↑(D.len b) : Int) ∧ D.sz b = 1)
 (.need (D.HasCell b (Int.toNat j) 0 (FT.int .i64))
 (.br (D.getInt a (Int.toNat j) 0 != D.getInt b (Int.toNat j) 0) (.ret (.lb false))
 (.leaf
 (Conf.mk
 (SFrm.mk 23 none none
 [Item.inLoop (cAt Try.prog 23 [1,1,0,1,0,0]),Item.inBlock 0,
 Item.code (cAt Try.prog 23 [1,1,1])]
 (mkJ 0 [(0,.dat a),(1,.dat b),(5,.int .i64 (IntKind.wrap .i64 (j + 1)))] 0
 26))
 [] [])))))))
 (.ret (.lb true)) := by kernel_rfl
theorem idx_go : exec Try.prog [] 200 (unroll (idxL d j)) =
 Tree.br (decide (j < (↑(D.len d) : Int)))
 (.need (0 ≤ j ∧ j < (↑(D.len d) : Int) ∧ D.sz d = 1)
 (.need (D.HasCell d (Int.toNat j) 0 (FT.int .i64))
 (.br (decide (D.getInt d (Int.toNat j) 0 < 0)) (.ret (.int .i64 j))
 (.br (decide (D.getInt d (Int.toNat j) 0 > 4096)) (.ret (.int .i64 j))
 (.leaf
 (Conf.mk
 (SFrm.mk 80 none none
 [Item.inLoop (cAt Try.prog 80 [1,0,1,0,0]),Item.inBlock 0,Item.code (cAt Try.prog 80 [1,1])]
 (mkJ 0
 [(0,.dat d),(1,SV.fn 53 [] []),(7,.int .i64 (↑(D.len d) : Int)),
 (8,.int .i64 (IntKind.wrap .i64 (j + 1)))]
 0 19))
 [] []))))))
 (.ret (.int .i64 (Int.neg 1))) := by kernel_rfl
theorem cc2_go : exec Try.prog [] 200 (unroll (cc2L nodes round phase deadline d s (.bool valid) j)) =
 Tree.br (decide (j < nodes))
 (.need (0 ≤ j ∧ j < (↑(D.len d) : Int) ∧ D.sz d = 1)
 (.need (D.HasCell d (Int.toNat j) 0 (FT.int .i64))
 (.br (decide (D.getInt d (Int.toNat j) 0 < 0)) (.ret (.int .i64 3))
 (.need (0 ≤ j ∧ j < (↑(D.len d) : Int) ∧ D.sz d = 1)
 (.need (D.HasCell d (Int.toNat j) 0 (FT.int .i64))
 (.br (decide (D.getInt d (Int.toNat j) 0 > 4096)) (.ret (.int .i64 3))
 (.leaf
 (Conf.mk
 (SFrm.mk 18 none none
 [Item.inLoop (cAt Try.prog 18 [1,1,1,0,1,0,0]),Item.inBlock 0,
 Item.code (cAt Try.prog 18 [1,1,1,1])]
 (mkJ 0 [(1,.ptr 0 0),(3,.int .i64 (IntKind.wrap .i64 (j + 1)))] 0 85))
 []
 [(0,
 OBlk.cells 25
 [.int .i64 nodes,.int .i64 round,.int .i64 phase,
 .int .i64 deadline,.dat d,.dat s,.bool valid])]))))))))
 (.ret (.int .i64 0)) := by kernel_rfl
theorem tm_in : exec Try.prog [] 200 (entry Try.prog 49 [.int .i64 n]) =
 Tree.br (decide (n ≥ 0)) (.ret (.bool (decide (n ≤ 1073741824)))) (.ret (.lb false)) := by kernel_rfl
end
end Sv.B21
end
noncomputable section
open Go Go.Proofs Sx
namespace Sx
section
variable {P : Program} {w : World} {H : HV}
theorem ret_coE {n r p dl k : Int} {X Y V : SV} {ps : List Int} {ss : List Bool} {v : Bool} {res : Co × Int} (hx : Stands Int X ps) (hy : Stands Bool Y ss) (hv : ∀ E,V.den E = (SV.bool v).den E) (hr : res = (⟨n,r,p,dl,ps,ss,v⟩,k)) :
  (Tree.ret (.tup [.agg [.int .i64 n,.int .i64 r,.int .i64 p,.int .i64 dl,X,Y,V],.int .i64 k])).holds P ⟨w,H⟩ (RetD w H fun ds=>.tup [coSV (ds 0) (ds 1) res.1,.int .i64 res.2]) := by
 subst hr
 obtain ⟨d,h1,h2,h3,h4⟩ := hx
 obtain ⟨d',h1',h2',h3',h4'⟩ := hy
 refine ret_D (fun i=>match i with | 0=>d | _=>d') (fun E E'=>?_) (fun H' ho=>?_)
 ·have : V.den E = (SV.bool v).den E' := by rw [hv]; rfl
  simp only [SV.den,SV.denL,coSV,D.like_self h2 h3,D.like_self h2' h3',h1,h1',this]
 ·simp only [SV.Ok,SV.OkL,coSV,D.like_self h2 h3,D.like_self h2' h3'] at ho ⊢
  exact ⟨⟨trivial,trivial,trivial,trivial,⟨h4 _ ho.1.2.2.2.2.1,h2.slc⟩,⟨h4' _ ho.1.2.2.2.2.2.1,h2'.slc⟩,trivial,trivial⟩,trivial,trivial⟩
end

theorem checkCo_first {n r p dl : Int} {ps : List Int} {ss : List Bool} {v : Bool} (h : checkCo ⟨n,r,p,dl,ps,ss,v⟩ = 0) : 1 ≤ n ∧ n ≤ 8 ∧ ps.length = n.toNat ∧ ss.length = n.toNat := by
 unfold checkCo at h
 split at h
 ·cases h
 ·split at h
  ·cases h
  ·rename_i h1 h2
   simp only [not_or] at h1 h2
   omega

theorem zeros_rows {n : Int} (h : Hd) : Stands Int (.dat (.slc h 1 (List.replicate (Int.toNat n) [D.int IntKind.i64 0]))) (List.replicate n.toNat 0) :=
 stands_rows rfl ⟨fun r hr=>by rw [List.eq_of_mem_replicate hr]; exact ok_int 0,by simp [List.map_replicate]⟩
theorem falses_rows {n : Int} (h : Hd) : Stands Bool (.dat (.slc h 1 (List.replicate (Int.toNat n) [D.bool false]))) (List.replicate n.toNat false) :=
 stands_rows rfl ⟨fun r hr=>by rw [List.eq_of_mem_replicate hr]; exact ok_bool false,by simp [List.map_replicate]⟩
end Sx

namespace Sv.B21

theorem lawIdx : Law Try.prog 80 ((rdD.two (rdFn 53)).sp spIdxBadC) := by
 refine law_in _ (by kernel_rfl) fun H w ⟨d,u⟩ hok hp=>?_
 obtain ⟨hd,hlen⟩ := hp _ (List.mem_singleton.2 rfl)
 simp only at hd hlen
 rw [D.Is.length (α := Int)] at hlen
 apply exec_sound (noCtr _) 200
 rw [show (rdD.two (rdFn 53)).canon (d,u) = [.dat d,.fn 53 [] []] from rfl,idx_in]
 refine runs_loop (fun j : Nat=>idxL d j) (fun j=>j ≤ (d.to Int).length ∧ ((d.to Int).take j).findIdx? badPos = none) (fun j=>(d.to Int).length - j) (fun _=>rfl) ?_ 0 ⟨Nat.zero_le _,by simp⟩
 intro j ⟨hj,hpre⟩ ih
 apply exec_sound (noCtr _) 200
 rw [idx_go]
 have hl := D.Is.length (α := Int) d
 have found : ∀ hc : j < (d.to Int).length,badPos (d.to Int)[j] = true → (d.to Int).findIdx? badPos = some j := by
  intro hc hb
  rw [List.findIdx?_eq_some_iff_getElem]
  refine ⟨hc,hb,fun i hi=>?_⟩
  rw [List.findIdx?_eq_none_iff] at hpre
  have := hpre (d.to Int)[i] (List.mem_take_iff_getElem.2 ⟨i,by omega,rfl⟩)
  simp [this]
 refine ⟨fun hc=>?_,fun hc=>?_⟩
 ·simp [hl] at hc
  obtain ⟨c1,c2,c3⟩ := int_at hd hc
  rw [c3]
  refine ⟨c1,c2,fun hc2=>ret_int ?_,fun hc2=>⟨fun hc3=>ret_int ?_,fun hc3=>?_⟩⟩
  ·simp only [idxP,found hc (by simp [badPos,hc2])]
  ·simp only [idxP,found hc (by simp [badPos,hc3])]
  ·have := ih (j + 1) ⟨hc,by rw [List.take_succ_eq_append_getElem hc,List.findIdx?_append,hpre]; simp at hc2 hc3; simp [badPos]; omega⟩ (by omega)
   rw [← wrap_succ hc hlen] at this
   exact this
 ·simp [hl] at hc
  have : j = (d.to Int).length := by omega
  subst this
  rw [List.take_length] at hpre
  exact ret_int (by simp only [idxP,hpre]; rfl)

theorem ctIdx : Ctrs.Ok Try.prog [(80,ctrOf ((rdD.two (rdFn 53)).sp spIdxBadC))] := by
 intro x hx
 rw [List.mem_singleton.1 hx]
 exact ctrOf_ok lawIdx

theorem lawAny : Law Try.prog 52 ((rdD.two (rdFn 53)).sp spAnyBadC) := by
 refine law_in _ (by kernel_rfl) fun H w ⟨d,u⟩ hok hp=>?_
 apply exec_sound ctIdx 200
 rw [show (rdD.two (rdFn 53)).canon (d,u) = [.dat d,.fn 53 [] []] from rfl,any_in]
 exact ⟨hp _ (List.mem_singleton.2 rfl),ret_bool (idxP_any _ _)⟩

theorem ctAny : Ctrs.Ok Try.prog [(52,ctrOf ((rdD.two (rdFn 53)).sp spAnyBadC))] := by
 intro x hx
 rw [List.mem_singleton.1 hx]
 exact ctrOf_ok lawAny

theorem lawNew (f : FuncId) (hf : f = 19 ∨ f = 20) : Law Try.prog f (rdInt.one.sp spNewCo) := by
 rcases hf with rfl | rfl
 all_goals
  refine law_in _ (by kernel_rfl) fun H w n hok hp=>?_
  clear hp hok
  apply exec_sound (noCtr _) 200
  rw [show rdInt.one.canon n = [.int .i64 n] from rfl]
  first | rw [new1_in] | rw [new2_in]
  refine ⟨fun hc=>?_,fun hc=>⟨fun hc2=>?_,fun hc2 hs=>?_⟩⟩
  ·exact ret_coE stands_nils stands_nils lb_den (by simp at hc; simp [newCo,hc])
  ·exact ret_coE stands_nils stands_nils lb_den (by simp at hc2; simp [newCo,hc2])
  ·simp only [decide_eq_false_iff_not] at hc hc2
   refine ⟨by simp; omega,by simp; omega,?_⟩
   exact ret_coE (zeros_rows _) (falses_rows _) lb_den (by rw [newCo,if_neg (by omega)])

theorem lawSameInts : Law Try.prog 23 ((rdD.two rdD).sp spSameInts) := by
 refine law_in _ (by kernel_rfl) fun H w ⟨a,b⟩ hok hp=>?_
 obtain ⟨ha,hb,hlen⟩ := hp _ (List.mem_singleton.2 rfl)
 simp only at ha hb hlen
 have hla := D.Is.length (α := Int) a
 have hlb := D.Is.length (α := Int) b
 rw [hla] at hlen
 apply exec_sound (noCtr _) 200
 rw [show (rdD.two rdD).canon (a,b) = [.dat a,.dat b] from rfl,ints_in]
 refine ⟨fun hc=>ret_lb ?_,fun hc=>?_⟩
 ·simp [hla,hlb] at hc
  symm
  simp only [decide_eq_false_iff_not]
  intro he; apply hc; rw [he]
 simp [hla,hlb] at hc
 have hc' : (a.to Int).length = (b.to Int).length := by omega
 refine runs_loop (fun j : Nat=>intsL a b j) (fun j=>j ≤ (a.to Int).length ∧ (a.to Int).take j = (b.to Int).take j) (fun j=>(a.to Int).length - j) (fun _=>rfl) ?_ 0 ⟨Nat.zero_le _,by simp⟩
 intro j ⟨hj,hpre⟩ ih
 apply exec_sound (noCtr _) 200
 rw [ints_go]
 refine ⟨fun hx=>?_,fun hx=>?_⟩
 ·simp [hla] at hx
  have hy : j < (b.to Int).length := by omega
  obtain ⟨c1,c2,c3⟩ := int_at ha hx
  obtain ⟨e1,e2,e3⟩ := int_at hb hy
  rw [c3,e3]
  refine fun hs=>⟨c1,c2,e1,e2,fun hn=>ret_lb ?_,fun hn=>?_⟩
  ·simp only [bne_iff_ne,ne_eq] at hn
   symm
   simp only [decide_eq_false_iff_not]
   intro he
   apply hn
   simp only [he]
  ·simp only [bne_eq_false_iff_eq] at hn
   have := ih (j + 1) ⟨hx,by rw [List.take_succ_eq_append_getElem hx,List.take_succ_eq_append_getElem hy,hpre,hn]⟩ (by omega)
   rw [← wrap_succ hx hlen] at this
   exact this
 ·simp [hla] at hx
  have : j = (a.to Int).length := by omega
  subst this
  rw [List.take_length] at hpre
  refine ret_lb ?_
  symm
  simp only [decide_eq_true_eq]
  rw [hpre,hc',List.take_length]

theorem cc2_loop {H : HV} {d s : D} (hd : d.Is Int) (nodes round phase deadline : Int) (valid : Bool) (w : World) (h1 : (d.to Int).length = nodes) (h8 : nodes ≤ 8) (k : Int)
  (hk : k = if (d.to Int).any badPos = true then 3 else 0) :
  Runs Try.prog ⟨w,H⟩ (cc2L nodes round phase deadline d s (.bool valid) 0) (RetS w H (.int .i64 k)) := by
 have hl := D.Is.length (α := Int) d
 refine runs_loop (fun j : Nat=>cc2L nodes round phase deadline d s (.bool valid) j) (fun j=>j ≤ (d.to Int).length ∧ ((d.to Int).take j).any badPos = false) (fun j=>(d.to Int).length - j) (fun _=>rfl) ?_ 0 ⟨Nat.zero_le _,by simp⟩
 intro j ⟨hj,hpre⟩ ih
 apply exec_sound (noCtr _) 200
 rw [cc2_go]
 have found : ∀ hc : j < (d.to Int).length,badPos (d.to Int)[j] = true → (d.to Int).any badPos = true := fun hc hb=>List.any_eq_true.2 ⟨_,List.getElem_mem hc,hb⟩
 refine ⟨fun hc=>?_,fun hc=>?_⟩
 ·simp only [decide_eq_true_eq] at hc
  have hc : j < (d.to Int).length := by omega
  obtain ⟨c1,c2,c3⟩ := int_at hd hc
  rw [c3]
  refine ⟨c1,c2,fun hc2=>ret_int ?_,fun hc2=>⟨c1,c2,fun hc3=>ret_int ?_,fun hc3=>?_⟩⟩
  ·rw [hk,found hc (by simp [badPos,hc2])]; rfl
  ·rw [hk,found hc (by simp [badPos,hc3])]; rfl
  ·have := ih (j + 1) ⟨hc,by rw [List.take_succ_eq_append_getElem hc,List.any_append,hpre]; simp at hc2 hc3; simp [badPos]; omega⟩ (by omega)
   rw [← wrap_succ hc (by omega)] at this
   exact this
 ·simp only [decide_eq_false_iff_not] at hc
  have : j = (d.to Int).length := by omega
  subst this
  rw [List.take_length] at hpre
  exact ret_int (by rw [hk,hpre]; rfl)

theorem lawCC1 : Law Try.prog 17 (rdCo.one.sp spCC) := by
 refine law_in _ (by kernel_rfl) fun H w ⟨n,r,p,dl,d,s,v⟩ hok hp=>?_
 obtain ⟨hd,hs⟩ := hp _ (List.mem_singleton.2 rfl)
 simp only at hd hs
 clear hp hok
 have hl := D.Is.length (α := Int) d
 have hl2 := D.Is.length (α := Bool) s
 apply exec_sound ctAny 300
 rw [show rdCo.one.canon ⟨n,r,p,dl,d,s,v⟩ = [.agg [.int .i64 n,.int .i64 r,.int .i64 p,.int .i64 dl,.dat d,.dat s,.bool v]] from rfl,cc1_in]
 simp only [CoD.co]
 have h3 : ∀ b : Bool,b = (d.to Int).any badPos → b = b := fun _ _=>rfl
 repeat' first
  | refine ⟨fun hc=>?_,fun hc=>?_⟩
  | refine ⟨⟨hd,by simp at *; omega⟩,?_⟩
  | refine ret_int ?_
  | fail
 all_goals (simp only [decide_eq_true_eq,decide_eq_false_iff_not,bne_iff_ne,ne_eq,bne_eq_false_iff_eq,Bool.not_eq_true',Bool.not_eq_false',Decidable.not_not,ge_iff_le,gt_iff_lt,hl,hl2] at *; simp [checkCo,okTime, *] <;> omega)
theorem lawCC2 : Law Try.prog 18 (rdCo.one.sp spCC) := by
 refine law_in _ (by kernel_rfl) fun H w ⟨n,r,p,dl,d,s,v⟩ hok hp=>?_
 obtain ⟨hd,hs⟩ := hp _ (List.mem_singleton.2 rfl)
 simp only at hd hs
 clear hp hok
 have hl := D.Is.length (α := Int) d
 have hl2 := D.Is.length (α := Bool) s
 apply exec_sound (noCtr _) 300
 rw [show rdCo.one.canon ⟨n,r,p,dl,d,s,v⟩ = [.agg [.int .i64 n,.int .i64 r,.int .i64 p,.int .i64 dl,.dat d,.dat s,.bool v]] from rfl,cc2_in]
 simp only [CoD.co]
 repeat' first
  | refine ⟨fun hc=>?_,fun hc=>?_⟩
  | refine ret_int ?_
  | fail
 all_goals first
  | (refine cc2_loop hd n r p dl v w ?_ ?_ _ ?_ <;> simp only [decide_eq_true_eq,decide_eq_false_iff_not,bne_iff_ne,ne_eq,bne_eq_false_iff_eq,Bool.not_eq_true',Bool.not_eq_false',Decidable.not_not,ge_iff_le,gt_iff_lt,hl,hl2] at * <;> first | omega | (simp [checkCo,okTime, *] <;> omega))
  | (simp only [decide_eq_true_eq,decide_eq_false_iff_not,bne_iff_ne,ne_eq,bne_eq_false_iff_eq,Bool.not_eq_true',Bool.not_eq_false',Decidable.not_not,ge_iff_le,gt_iff_lt,hl,hl2] at *; simp [checkCo,okTime, *] <;> omega)
end Sv.B21
end
noncomputable section
open Go Go.Proofs Sx
namespace Sv.B21
def all1L (d out : D) (kind n i : Int) : Conf := Conf.mk (SFrm.mk 50 none none [Item.inLoop (cA 50 [1,1,0,1,0,0]),Item.inBlock 0,Item.code (cA 50 [1,1,1])]
 (mkJ 0 [(0,.elt d 0 0),(1,.int .i64 kind),(5,.vec 0),(11,.int .i64 n),(12,.int .i64 i)] 0 33)) [] [(0,.arr 50 out)]
def all2L (nodes round phase deadline : Int) (d s out : D) (v : SV) (kind i : Int) : Conf := Conf.mk (SFrm.mk 51 none none [Item.inLoop (cA 51 [1,1,0,1,0,0]),Item.inBlock 0,Item.code (cA 51 [1,1,1])]
 (mkJ 0 [(1,.int .i64 kind),(2,.ptr 0 0),(5,.vec 1),(6,.int .i64 i)] 0 24)) [] [(0,.cells 25 [.int .i64 nodes,.int .i64 round,.int .i64 phase,.int .i64 deadline,.dat d,.dat s,v]),(1,.arr 50 out)]
def samecoL (n r p dl n' r' p' dl' : Int) (d s d' s' : D) (v v' : Bool) (j : Int) : Conf := Conf.mk (SFrm.mk 15 none none [Item.inLoop (cA 15 [1,1,0,1,0,0]),Item.inBlock 0,Item.code (cA 15 [1,1,1])]
 (mkJ 0 [(2,.ptr 0 0),(3,.ptr 1 0),(5,.int .i64 j)] 0 74)) [] [(0,.cells 25 [.int .i64 n,.int .i64 r,.int .i64 p,.int .i64 dl,.dat d,.dat s,.bool v]),(1,.cells 25 [.int .i64 n',.int .i64 r',.int .i64 p',.int .i64 dl',.dat d',.dat s',.bool v'])]
def samemsL (a b : D) (j : Int) : Conf := Conf.mk (SFrm.mk 16 none none [Item.inLoop (cA 16 [1,1,0,1,0,0]),Item.inBlock 0,Item.code (cA 16 [1,1,1])]
 (mkJ 0 [(0,.dat a),(1,.dat b),(5,.int .i64 j)] 0 84)) [] []
section
variable (n j i : Int) (v : SV) (a b d s out d' s' : D) (nodes round phase deadline now patience kind n' r p dl r' p' dl' : Int) (valid valid' : Bool)
theorem cl1_in : execT Try.prog [] (fun _=>false) 19 (entry Try.prog 54 [.dat d]) =
 Tree.br
 (nilOf
 (evS
 (putS [.dat d,SV.undef,.nils,SV.undef,SV.undef,SV.undef,SV.undef,SV.undef] (some 3)
 (evS [.dat d,SV.undef,.nils,SV.undef,SV.undef,SV.undef,SV.undef,SV.undef] (Operand.tmp 0)))
 (Operand.tmp 3))
 d)
 (.ret .nils)
 (.all fun hs =>
 .need
 (D.sz (D.slc (D.hd (hs 0 0)) 1 []) = 1 ∧
 D.Fits d 1 ∧
 (D.len (D.slc (D.hd (hs 0 0)) 1 []) + D.len d) * 8 ≤ 140737488355328 ∧
 D.len (D.slc (D.hd (hs 0 0)) 1 []) + D.len d ≤ 9223372036854775807)
 (.all fun hs_1 =>
 .leaf
 (Conf.mk
 (SFrm.mk 54 none none [Item.code (cA 54 [1,0,1,0,1])]
 (mkU
 [(0,.dat d),(2,.vec 1007),(3,.dat d),
 (4,
 .bool
 (nilOf
 (evS
 (putS [.dat d,SV.undef,.nils,SV.undef,SV.undef,SV.undef,SV.undef,SV.undef] (some 3)
 (evS [.dat d,SV.undef,.nils,SV.undef,SV.undef,SV.undef,SV.undef,SV.undef]
 (Operand.tmp 0)))
 (Operand.tmp 3))
 d)),
 (5,.vec 1005),(6,.dat d),(7,.vec 1007)]
 0 8))
 []
 [(1007,
 OBlk.arr 3
 (D.slc (D.hd (hs_1 0 0)) 1 (List.append (D.rows (D.slc (D.hd (hs 0 0)) 1 [])) (D.rows d))))]))) := by kernel_rfl
theorem cl2_in : execT Try.prog [] (fun _=>false) 19 (entry Try.prog 82 [.dat d]) =
 Tree.br
 (nilOf
 (evS
 (putS [.dat d,SV.undef,.nils,SV.undef,SV.undef,SV.undef,SV.undef,SV.undef] (some 3)
 (evS [.dat d,SV.undef,.nils,SV.undef,SV.undef,SV.undef,SV.undef,SV.undef] (Operand.tmp 0)))
 (Operand.tmp 3))
 d)
 (.ret .nils)
 (.all fun hs =>
 .need
 (D.sz (D.slc (D.hd (hs 0 0)) 1 []) = 1 ∧
 D.Fits d 1 ∧
 (D.len (D.slc (D.hd (hs 0 0)) 1 []) + D.len d) * 1 ≤ 140737488355328 ∧
 D.len (D.slc (D.hd (hs 0 0)) 1 []) + D.len d ≤ 9223372036854775807)
 (.all fun hs_1 =>
 .leaf
 (Conf.mk
 (SFrm.mk 82 none none [Item.code (cA 82 [1,0,1,0,1])]
 (mkU
 [(0,.dat d),(2,.vec 1007),(3,.dat d),
 (4,
 .bool
 (nilOf
 (evS
 (putS [.dat d,SV.undef,.nils,SV.undef,SV.undef,SV.undef,SV.undef,SV.undef] (some 3)
 (evS [.dat d,SV.undef,.nils,SV.undef,SV.undef,SV.undef,SV.undef,SV.undef]
 (Operand.tmp 0)))
 (Operand.tmp 3))
 d)),
 (5,.vec 1005),(6,.dat d),(7,.vec 1007)]
 0 8))
 []
 [(1007,
 OBlk.arr 4
 (D.slc (D.hd (hs_1 0 0)) 1 (List.append (D.rows (D.slc (D.hd (hs 0 0)) 1 [])) (D.rows d))))]))) := by kernel_rfl
theorem all1_in : exec Try.prog [] 200 (entry Try.prog 50 [.elt d 0 0,.int .i64 kind]) =
 Tree.need (D.HasCell d 0 0 (FT.int .i64))
 (.leaf
 (Conf.mk
 (SFrm.mk 50 none none
 [Item.inLoop (cA 50 [1,1,0,1,0,0]),Item.inBlock 0,Item.code (cA 50 [1,1,1])]
 (mkJ 0
 [(0,SV.elt d 0 0),(1,.int .i64 kind),(5,.nils),(11,.int .i64 (D.getInt d 0 0)),
 (12,.int .i64 0)]
 0 33))
 [] [])) := by kernel_rfl
theorem all1_go : exec Try.prog [] 200 (unroll (all1L d out kind n i)) =
 Tree.br (decide (i < n))
 (.all fun hs =>
 .need (D.HasCell d 0 0 (FT.int .i64))
 (.need (D.HasCell d 0 1 (FT.int .i64))
 (.need
 (D.sz out = 8 ∧
 D.Fits
 (D.slc (D.hd (hs 14 0)) 8
 [[D.int .i64 kind,D.int .i64 (D.getInt d 0 0),D.int .i64 i,
 D.int .i64 (D.getInt d 0 1),D.int .i64 0,D.int .i64 0,D.slc none 0 [],
 D.slc none 0 []]])
 8 ∧
 (D.len out +
 D.len
 (D.slc (D.hd (hs 14 0)) 8
 [[D.int .i64 kind,D.int .i64 (D.getInt d 0 0),D.int .i64 i,
 D.int .i64 (D.getInt d 0 1),D.int .i64 0,D.int .i64 0,
 D.slc none 0 [],D.slc none 0 []]])) *
 96 ≤
 140737488355328 ∧
 D.len out +
 D.len
 (D.slc (D.hd (hs 14 0)) 8
 [[D.int .i64 kind,D.int .i64 (D.getInt d 0 0),D.int .i64 i,
 D.int .i64 (D.getInt d 0 1),D.int .i64 0,D.int .i64 0,
 D.slc none 0 [],D.slc none 0 []]]) ≤
 9223372036854775807)
 (.leaf
 (Conf.mk
 (SFrm.mk 50 none none
 [Item.inLoop (cA 50 [1,1,0,1,0,0]),Item.inBlock 0,
 Item.code (cA 50 [1,1,1])]
 (mkJ 0
 [(0,SV.elt d 0 0),(1,.int .i64 kind),(5,.vec 0),(11,.int .i64 n),
 (12,.int .i64 (IntKind.wrap .i64 (i + 1)))]
 0 33))
 []
 [(0,
 OBlk.arr 50
 (D.slc (D.hd (hs 15 0)) 8
 (List.append (D.rows out)
 (D.rows
 (D.slc (D.hd (hs 14 0)) 8
 [[D.int .i64 kind,D.int .i64 (D.getInt d 0 0),D.int .i64 i,
 D.int .i64 (D.getInt d 0 1),D.int .i64 0,D.int .i64 0,
 D.slc none 0 [],D.slc none 0 []]])))))])))))
 (.ret (.dat out)) := by kernel_rfl
theorem all2_in : exec Try.prog [] 200 (entry Try.prog 51 [.agg [.int .i64 nodes,.int .i64 round,.int .i64 phase,.int .i64 deadline,.dat d,.dat s,.bool valid],.int .i64 kind]) =
 Tree.leaf
 (Conf.mk
 (SFrm.mk 51 none none
 [Item.inLoop (cA 51 [1,1,0,1,0,0]),Item.inBlock 0,Item.code (cA 51 [1,1,1])]
 (mkJ 0 [(1,.int .i64 kind),(2,.ptr 0 0),(5,.nils),(6,.int .i64 0)] 0 24))
 []
 [(0,
 OBlk.cells 25
 [.int .i64 nodes,.int .i64 round,.int .i64 phase,.int .i64 deadline,
 .dat d,.dat s,.bool valid])]) := by kernel_rfl
theorem all2_go : exec Try.prog [] 200 (unroll (all2L nodes round phase deadline d s out (.bool valid) kind i)) =
 Tree.br (decide (i < nodes))
 (.all fun hs =>
 .need
 (D.sz out = 8 ∧
 D.Fits
 (D.slc (D.hd (hs 0 0)) 8
 [[D.int .i64 kind,D.int .i64 nodes,D.int .i64 i,D.int .i64 round,
 D.int .i64 0,D.int .i64 0,D.slc none 0 [],D.slc none 0 []]])
 8 ∧
 (D.len out +
 D.len
 (D.slc (D.hd (hs 0 0)) 8
 [[D.int .i64 kind,D.int .i64 nodes,D.int .i64 i,D.int .i64 round,
 D.int .i64 0,D.int .i64 0,D.slc none 0 [],D.slc none 0 []]])) *
 96 ≤
 140737488355328 ∧
 D.len out +
 D.len
 (D.slc (D.hd (hs 0 0)) 8
 [[D.int .i64 kind,D.int .i64 nodes,D.int .i64 i,D.int .i64 round,
 D.int .i64 0,D.int .i64 0,D.slc none 0 [],D.slc none 0 []]]) ≤
 9223372036854775807)
 (.all fun hs_1 =>
 .leaf
 (Conf.mk
 (SFrm.mk 51 none none
 [Item.inLoop (cA 51 [1,1,0,1,0,0]),Item.inBlock 0,Item.code (cA 51 [1,1,1])]
 (mkJ 0
 [(1,.int .i64 kind),(2,.ptr 0 0),(5,.vec 1),
 (6,.int .i64 (IntKind.wrap .i64 (i + 1)))]
 0 24))
 []
 [(0,
 OBlk.cells 25
 [.int .i64 nodes,.int .i64 round,.int .i64 phase,
 .int .i64 deadline,.dat d,.dat s,.bool valid]),
 (1,
 OBlk.arr 50
 (D.slc (D.hd (hs_1 0 0)) 8
 (List.append (D.rows out)
 (D.rows
 (D.slc (D.hd (hs 0 0)) 8
 [[D.int .i64 kind,D.int .i64 nodes,D.int .i64 i,
 D.int .i64 round,D.int .i64 0,D.int .i64 0,D.slc none 0 [],
 D.slc none 0 []]])))))])))
 (.ret (.dat out)) := by kernel_rfl
theorem res1_in : exec Try.prog ctB 300 (entry Try.prog 21 [.agg [.int .i64 nodes,.int .i64 round,.int .i64 phase,.int .i64 deadline,.dat d,.dat s,.bool valid]]) =
 Tree.need (D.Is Int d ∧ D.Is Bool s)
 (.br (checkCo (CoD.co (CoD.mk nodes round phase deadline d s valid)) != 0)
 (.ret (SV.tup [.nils,.lb false]))
 (.br (!valid) (.ret (SV.tup [.nils,.lb false]))
 (.need (D.Is Int d ∧ D.len d ≤ 1048576)
 (.all fun hs=>.ret (SV.tup [.dat (D.slc (D.hd (hs 0 0)) 1 (D.rows d)),.lb true]))))) := by kernel_rfl
theorem res2_in : exec Try.prog ctB 300 (entry Try.prog 22 [.agg [.int .i64 nodes,.int .i64 round,.int .i64 phase,.int .i64 deadline,.dat d,.dat s,.bool valid]]) =
 Tree.need (D.Is Int d ∧ D.Is Bool s)
 (.br (checkCo (CoD.co (CoD.mk nodes round phase deadline d s valid)) != 0)
 (.ret (SV.tup [.nils,.lb false]))
 (.br (!valid) (.ret (SV.tup [.nils,.lb false])) (.ret (SV.tup [.dat d,.lb true])))) := by kernel_rfl
theorem start1_in : 
 let z3 : List SV := [.int .i64 0,.int .i64 0,.int .i64 0,.int .i64 0,.nils,.nils,.lb false]
 let z1 : Tree := (.br (phase != 0) (.ret (SV.tup [.agg z3,.nils,.int .i64 26])) (.br (decide (round = 1073741824)) (.ret (SV.tup [.agg z3,.nils,.int .i64 6])) (.all fun hs=>.all fun hs_1=>.need (Co.nodes (Prod.fst (newCo nodes)) ≤ 8) (.ret (SV.tup [.agg [.int .i64 (Co.nodes (Prod.fst (newCo nodes))),.int .i64 (IntKind.wrap .i64 (round + 1)),.int .i64 1,.int .i64 (IntKind.wrap .i64 (now + patience)),.dat (D.like (hs 0 0) (Co.positions (Prod.fst (newCo nodes)))),.dat (D.like (hs 0 1) (Co.seen (Prod.fst (newCo nodes)))),.bool (Co.valid (Prod.fst (newCo nodes)))],.dat (D.like (hs_1 5 0) (msgsTo (Co.nodes (Prod.fst (newCo nodes))) (IntKind.wrap .i64 (round + 1)) 1)),.int .i64 0])))))
 let z2 : Tree := (.ret (SV.tup [.agg z3,.nils,.int .i64 24]))
 exec Try.prog ctB 500 (entry Try.prog 13 [.agg [.int .i64 nodes,.int .i64 round,.int .i64 phase,.int .i64 deadline,.dat d,.dat s,.bool valid],.int .i64 now,.int .i64 patience]) =
 Tree.need (D.Is Int d ∧ D.Is Bool s) (.br (checkCo (CoD.co (CoD.mk nodes round phase deadline d s valid)) != 0) (.ret (SV.tup [.agg z3,.nils,.int .i64 (checkCo (CoD.co (CoD.mk nodes round phase deadline d s valid)))]))
 (.br (decide (now ≥ 0)) (.br (!decide (now ≤ 1073741824)) (.br (!decide (now ≤ 1073741824)) z2 z1) (.br (decide (patience < 1)) (.br (decide (patience < 1)) z2 z1) (.br (decide (patience > IntKind.wrap .i64
 (1073741824 - now))) z2 z1))) z2)) := by
 intros; kernel_rfl
theorem start2_in : exec Try.prog ctB 500 (entry Try.prog 14 [.agg [.int .i64 nodes,.int .i64 round,.int .i64 phase,.int .i64 deadline,.dat d,.dat s,.bool valid],.int .i64 now,.int .i64 patience]) =
 Tree.need (D.Is Int d ∧ D.Is Bool s)
 (.br (checkCo (CoD.co (CoD.mk nodes round phase deadline d s valid)) != 0)
 (.ret
 (SV.tup
 [.agg
 [.int .i64 0,.int .i64 0,.int .i64 0,.int .i64 0,.nils,.nils,
 .lb false],
 .nils,.int .i64 3]))
 (.br (decide (now < 0))
 (.ret
 (SV.tup
 [.agg
 [.int .i64 0,.int .i64 0,.int .i64 0,.int .i64 0,.nils,.nils,
 .lb false],
 .nils,.int .i64 24]))
 (.br (decide (patience < 1))
 (.ret
 (SV.tup
 [.agg
 [.int .i64 0,.int .i64 0,.int .i64 0,.int .i64 0,.nils,
 .nils,.lb false],
 .nils,.int .i64 24]))
 (.br (decide (now > 1073741824))
 (.ret
 (SV.tup
 [.agg
 [.int .i64 0,.int .i64 0,.int .i64 0,.int .i64 0,.nils,
 .nils,.lb false],
 .nils,.int .i64 24]))
 (.br (decide (patience > IntKind.wrap .i64 (1073741824 - now)))
 (.ret
 (SV.tup
 [.agg
 [.int .i64 0,.int .i64 0,.int .i64 0,.int .i64 0,.nils,
 .nils,.lb false],
 .nils,.int .i64 24]))
 (.br (phase != 0)
 (.ret
 (SV.tup
 [.agg
 [.int .i64 0,.int .i64 0,.int .i64 0,.int .i64 0,.nils,
 .nils,.lb false],
 .nils,.int .i64 26]))
 (.br (decide (round = 1073741824))
 (.ret
 (SV.tup
 [.agg
 [.int .i64 0,.int .i64 0,.int .i64 0,.int .i64 0,
 .nils,.nils,.lb false],
 .nils,.int .i64 6]))
 (.all fun hs =>
 .all fun hs_1 =>
 .need (Co.nodes (Prod.fst (newCo nodes)) ≤ 8)
 (.ret
 (SV.tup
 [.agg
 [.int .i64 (Co.nodes (Prod.fst (newCo nodes))),
 .int .i64 (IntKind.wrap .i64 (round + 1)),.int .i64 1,
 .int .i64 (IntKind.wrap .i64 (now + patience)),
 .dat (D.like (hs 0 0) (Co.positions (Prod.fst (newCo nodes)))),
 .dat (D.like (hs 0 1) (Co.seen (Prod.fst (newCo nodes)))),
 .bool (Co.valid (Prod.fst (newCo nodes)))],
 .dat
 (D.like (hs_1 2 0)
 (msgsTo (Co.nodes (Prod.fst (newCo nodes))) (IntKind.wrap .i64 (round + 1)) 1)),
 .int .i64 0])))))))))) := by kernel_rfl
theorem sameco_in : exec Try.prog ctB 500 (entry Try.prog 15 [.agg [.int .i64 n,.int .i64 r,.int .i64 p,.int .i64 dl,.dat d,.dat s,.bool valid],.agg [.int .i64 n',.int .i64 r',.int .i64 p',.int .i64 dl',.dat d',.dat s',.bool valid']]) =
 Tree.br (n != n') (.ret (.lb false))
 (.br (r != r') (.ret (.lb false))
 (.br (p != p') (.ret (.lb false))
 (.br (dl != dl') (.ret (.lb false))
 (.br (!decide (valid = valid')) (.ret (.lb false))
 (.need (D.Is Int d ∧ D.Is Int d' ∧ D.len d ≤ 1048576)
 (.br (!decide (D.to Int d = D.to Int d')) (.ret (.lb false))
 (.br ((↑(D.len s) : Int) != (↑(D.len s') : Int)) (.ret (.lb false))
 (.leaf
 (Conf.mk
 (SFrm.mk 15 none none
 [Item.inLoop (cA 15 [1,1,0,1,0,0]),Item.inBlock 0,
 Item.code (cA 15 [1,1,1])]
 (mkJ 0 [(2,.ptr 0 0),(3,.ptr 1 0),(5,.int .i64 0)] 0 74))
 []
 [(0,
 OBlk.cells 25
 [.int .i64 n,.int .i64 r,.int .i64 p,.int .i64 dl,
 .dat d,.dat s,.bool valid]),
 (1,
 OBlk.cells 25
 [.int .i64 n',.int .i64 r',.int .i64 p',.int .i64 dl',
 .dat d',.dat s',.bool valid'])]))))))))) := by kernel_rfl
theorem sameco_go : exec Try.prog ctB 500 (unroll (samecoL n r p dl n' r' p' dl' d s d' s' valid valid' j)) =
 Tree.br (decide (j < (↑(D.len s) : Int)))
 (.all fun hs =>
 .need (0 ≤ j ∧ j < (↑(D.len s) : Int) ∧ D.sz s = 1)
 (.need (D.HasCell s (Int.toNat j) 0 FT.bool)
 (.need (0 ≤ j ∧ j < (↑(D.len s') : Int) ∧ D.sz s' = 1)
 (.need (D.HasCell s' (Int.toNat j) 0 FT.bool)
 (.br (!decide (D.getBool s (Int.toNat j) 0 = D.getBool s' (Int.toNat j) 0)) (.ret (.lb false))
 (.leaf
 (Conf.mk
 (SFrm.mk 15 none none
 [Item.inLoop (cA 15 [1,1,0,1,0,0]),Item.inBlock 0,
 Item.code (cA 15 [1,1,1])]
 (mkJ 0
 [(2,.ptr 0 0),(3,.ptr 1 0),(5,.int .i64 (IntKind.wrap .i64 (j + 1)))] 0
 74))
 []
 [(0,
 OBlk.cells 25
 [.int .i64 n,.int .i64 r,.int .i64 p,.int .i64 dl,
 .dat d,.dat s,.bool valid]),
 (1,
 OBlk.cells 25
 [.int .i64 n',.int .i64 r',.int .i64 p',.int .i64 dl',
 .dat d',.dat s',.bool valid'])])))))))
 (.ret (.lb true)) := by kernel_rfl
theorem samems_in : exec Try.prog ctB 500 (entry Try.prog 16 [.dat a,.dat b]) =
 Tree.br ((↑(D.len a) : Int) != (↑(D.len b) : Int)) (.ret (.lb false))
 (.leaf
 (Conf.mk
 (SFrm.mk 16 none none
 [Item.inLoop (cA 16 [1,1,0,1,0,0]),Item.inBlock 0,Item.code (cA 16 [1,1,1])]
 (mkJ 0 [(0,.dat a),(1,.dat b),(5,.int .i64 0)] 0 84))
 [] [])) := by kernel_rfl
theorem samems_go : exec Try.prog ctB 500 (unroll (samemsL a b j)) =
 Tree.br (decide (j < (↑(D.len a) : Int)))
 (.all fun hs =>
 .need (0 ≤ j ∧ j < (↑(D.len a) : Int) ∧ D.sz a = 8)
 (.need
 (D.HasCells a (Int.toNat j) 0
 [FT.int .i64,FT.int .i64,FT.int .i64,FT.int .i64,FT.int .i64,
 FT.int .i64,FT.slc,FT.slc])
 (.need (0 ≤ j ∧ j < (↑(D.len b) : Int) ∧ D.sz b = 8)
 (.need
 (D.HasCells b (Int.toNat j) 0
 [FT.int .i64,FT.int .i64,FT.int .i64,FT.int .i64,FT.int .i64,
 FT.int .i64,FT.slc,FT.slc])
 (.br (D.getInt a (Int.toNat j) 0 != D.getInt b (Int.toNat j) 0) (.ret (.lb false))
 (.br (D.getInt a (Int.toNat j) 1 != D.getInt b (Int.toNat j) 1) (.ret (.lb false))
 (.br (D.getInt a (Int.toNat j) 2 != D.getInt b (Int.toNat j) 2) (.ret (.lb false))
 (.br (D.getInt a (Int.toNat j) 3 != D.getInt b (Int.toNat j) 3) (.ret (.lb false))
 (.br (D.getInt a (Int.toNat j) 4 != D.getInt b (Int.toNat j) 4) (.ret (.lb false))
 (.br (D.getInt a (Int.toNat j) 5 != D.getInt b (Int.toNat j) 5) (.ret (.lb false))
 (.need
 (D.Is Int (D.cell a (Int.toNat j) 6) ∧
 D.Is Int (D.cell b (Int.toNat j) 6) ∧ D.len (D.cell a (Int.toNat j) 6) ≤ 1048576)
 (.br (!decide (D.to Int (D.cell a (Int.toNat j) 6) = D.to Int (D.cell b (Int.toNat j) 6)))
 (.ret (.lb false))
 (.need (D.IsBytes (D.cell a (Int.toNat j) 7))
 (.need (D.IsBytes (D.cell b (Int.toNat j) 7))
 (.br
 (!List.beq (ByteArray.toList (D.bytesOf (D.cell a (Int.toNat j) 7)))
 (ByteArray.toList (D.bytesOf (D.cell b (Int.toNat j) 7))))
 (.ret (.lb false))
 (.leaf
 (Conf.mk
 (SFrm.mk 16 none none
 [Item.inLoop (cA 16 [1,1,0,1,0,0]),Item.inBlock 0,
 Item.code (cA 16 [1,1,1])]
 (mkJ 0
 [(0,.dat a),(1,.dat b),
 (5,.int .i64 (IntKind.wrap .i64 (j + 1)))]
 0 84))
 [] [])))))))))))))))))
 (.ret (.lb true)) := by kernel_rfl
end
end Sv.B21
end
noncomputable section
open Go Go.Proofs Sx
namespace Sx

theorem val_int {d : D} {k : IntKind} {n : Int} (h : d.val = .int k n) : d = .int k n := by
 cases d with
 | int k' n'=>simp only [D.val,Value.int.injEq] at h; rw [h.1,h.2]
 | bool b=>simp [D.val] at h
 | str s=>simp [D.val] at h
 | slc hh s r=>cases hh <;> simp [D.val,hval] at h

theorem empty_ok {H H2 : HV} {d : D} (h : d.Ok H) (hs : d.IsSlc) (hr : d.rows = []) : d.Ok H2 := by
 obtain ⟨a,b,c,rfl⟩ := hs
 simp only [D.rows] at hr
 subst hr
 cases h with
 | nil=>exact .nil _
 | slc=>exact .slc _ _ _ [] (by simp) (by simp) (by simp) (by simp) (by simp)
theorem msgs_far {H' H2 : HV} {b n : Nat} (hn : n ≤ 7) (hb : ∀ o,n ≤ o → H' b o = none) (h2 : ∀ b' o v,b' ≠ b → H' b' o = some v → H2 b' o = some v) {d : D}
  (hms : ∀ m,m ∈ d.to Msg → m.values = [] ∧ m.body = []) (hd : d.Is Msg) (hok : d.Ok H') : d.Ok H2 := by
 obtain ⟨h,s,rows,rfl,hs,hr⟩ := hd
 cases hok with
 | nil=>exact .nil _
 | slc a c sz rows h1 h2' h3 h4 h5 =>
  refine .slc a c s rows h1 h2' h3 (fun i j r x hi hj=>h2 _ _ _ (fun hbk=>?_) (h4 i j r x hi hj)) (fun r hrr x hx=>?_)
  ·have hmem := List.mem_of_getElem? hi
   have hs8 : s = 8 := by
    rcases hs with rfl | hs
    ·cases hmem
    ·exact hs
   have hl := h3 r hmem
   subst hs8
   have h7 : r[7]? = some r[7] := List.getElem?_eq_getElem (by omega)
   have := h4 i 7 r r[7] hi h7
   rw [hbk,hb _ (by omega)] at this
   cases this
  ·obtain ⟨e1,e2,e3,e4,e5,e6,v,w,rfl,hv,hw⟩ := hr r hrr
   have hm := hms _ (List.mem_map.2 ⟨_,hrr,rfl⟩)
   have hx' := h5 _ hrr x hx
   simp only [List.mem_cons,List.not_mem_nil,or_false] at hx
   rcases hx with rfl | rfl | rfl | rfl | rfl | rfl | rfl | rfl
   ·exact .int ..
   ·exact .int ..
   ·exact .int ..
   ·exact .int ..
   ·exact .int ..
   ·exact .int ..
   ·exact empty_ok hx' hv.slc (by have : (x.to Int) = [] := hm.1; simpa [D.to] using this)
   ·exact empty_ok hx' hw.slc (by have : (x.to Byte) = [] := hm.2; simpa [D.to] using this)

theorem checkCo_zero {n r p dl : Int} {ps : List Int} {ss : List Bool} {v : Bool} : checkCo ⟨n,r,p,dl,ps,ss,v⟩ = 0 ↔
  (1 ≤ n ∧ n ≤ 8) ∧ (0 ≤ r ∧ r ≤ 1073741824) ∧ (0 ≤ dl ∧ dl ≤ 1073741824) ∧ (0 ≤ p ∧ p ≤ 2) ∧ (ps.length : Int) = n ∧ (ss.length : Int) = n ∧ (v = true → p = 0) ∧ ps.any badPos = false := by
 unfold checkCo
 simp only [okTime]
 split
 ·rename_i h
  constructor
  ·intro h; cases h
  ·intro h'
   simp only [Bool.and_eq_false_imp,decide_eq_true_eq,decide_eq_false_iff_not] at h
   omega
 ·rename_i h
  simp only [Bool.and_eq_false_imp,decide_eq_true_eq,decide_eq_false_iff_not,not_or,Classical.not_imp,Decidable.not_not] at h
  split
  ·rename_i h2
   constructor
   ·intro h; cases h
   ·rintro ⟨_,_,_,_,h3,h4,h5,_⟩
    rcases h2 with h2 | h2 | ⟨h2,h6⟩
    ·exact absurd h3 h2
    ·exact absurd h4 h2
    ·exact absurd (h5 h2) h6
  ·rename_i h2
   simp only [not_or,not_and,Decidable.not_not] at h2
   split
   ·rename_i h3
    constructor
    ·intro h; cases h
    ·rintro ⟨_,_,_,_,_,_,_,h4⟩; rw [h3] at h4; cases h4
   ·rename_i h3
    simp only [Bool.not_eq_true] at h3
    simp only [true_iff]
    exact ⟨by omega,by omega,by omega,by omega,h2.1,h2.2.1,h2.2.2,h3⟩

theorem checkCo_or (c : Co) : checkCo c = 0 ∨ checkCo c = 3 := by
 unfold checkCo
 split
 ·exact .inr rfl
 ·split
  ·exact .inr rfl
  ·split
   ·exact .inr rfl
   ·exact .inl rfl

theorem newCo_eq {n : Int} (h : 1 ≤ n ∧ n ≤ 8) : newCo n = (⟨n,0,0,0,List.replicate n.toNat 0,List.replicate n.toNat false,false⟩,0) := by rw [newCo,if_neg (by omega)]

theorem startCo_eq {n r p dl now patience : Int} {ps : List Int} {ss : List Bool} {v : Bool} (h : checkCo ⟨n,r,p,dl,ps,ss,v⟩ = 0) : startCo ⟨n,r,p,dl,ps,ss,v⟩ now patience =
  if now < 0 ∨ now > 1073741824 ∨ patience < 1 ∨ patience > 1073741824 - now then (zCo,[],24) else if p ≠ 0 then (zCo,[],26) else if r = 1073741824 then (zCo,[],6)
  else (⟨n,r + 1,1,now + patience,List.replicate n.toNat 0,List.replicate n.toNat false,false⟩,msgsTo n (r + 1) 1,0) := by
 have hz := checkCo_zero.1 h
 unfold startCo
 rw [if_neg (by simp [h])]
 have e : (okTime now = false ∨ patience < 1 ∨ patience > 1073741824 - now) ↔ (now < 0 ∨ now > 1073741824 ∨ patience < 1 ∨ patience > 1073741824 - now) := by
  simp only [okTime,Bool.and_eq_false_imp,decide_eq_true_eq,decide_eq_false_iff_not]
  omega
 by_cases h1 : okTime now = false ∨ patience < 1 ∨ patience > 1073741824 - now
 ·rw [if_pos h1,if_pos (e.1 h1)]
 ·rw [if_neg h1,if_neg (fun hh=>h1 (e.2 hh))]
  split
  ·rfl
  ·split
   ·rfl
   ·simp only [newCo_eq hz.1,allMsgs_eq]

section
variable {P : Program} {w : World} {H : HV}
theorem ret_co3 {n r p dl k : Int} {X Y V Z : SV} {ps : List Int} {ss : List Bool} {v : Bool} {ms : List Msg} {res : Co × List Msg × Int} (hx : Stands Int X ps) (hy : Stands Bool Y ss) (hv : ∀ E,V.den E = (SV.bool v).den E) (hz : Stands Msg Z ms)
  (hr : res = (⟨n,r,p,dl,ps,ss,v⟩,ms,k)) :
  (Tree.ret (.tup [.agg [.int .i64 n,.int .i64 r,.int .i64 p,.int .i64 dl,X,Y,V],Z,.int .i64 k])).holds P ⟨w,H⟩ (RetD w H fun ds=>.tup [coSV (ds 0) (ds 1) res.1,.dat ((ds 2).like res.2.1),.int .i64 res.2.2]) := by
 subst hr
 obtain ⟨d,h1,h2,h3,h4⟩ := hx
 obtain ⟨d',h1',h2',h3',h4'⟩ := hy
 obtain ⟨d'',h1'',h2'',h3'',h4''⟩ := hz
 refine ret_D (fun i=>match i with | 0=>d | 1=>d' | _=>d'') (fun E E'=>?_) (fun H' ho=>?_)
 ·have : V.den E = (SV.bool v).den E' := by rw [hv]; rfl
  simp only [SV.den,SV.denL,coSV,D.like_self h2 h3,D.like_self h2' h3',D.like_self h2'' h3'',h1,h1',h1'',this]
 ·simp only [SV.Ok,SV.OkL,coSV,D.like_self h2 h3,D.like_self h2' h3',D.like_self h2'' h3''] at ho ⊢
  exact ⟨⟨trivial,trivial,trivial,trivial,⟨h4 _ ho.1.2.2.2.2.1,h2.slc⟩,⟨h4' _ ho.1.2.2.2.2.2.1,h2'.slc⟩,trivial,trivial⟩,⟨h4'' _ ho.2.1,h2''.slc⟩,trivial,trivial⟩

theorem ret_co2 {n r p dl : Int} {X Y V Z : SV} {ps : List Int} {ss : List Bool} {v : Bool} {ms : List Msg} {res : Co × List Msg} (hx : Stands Int X ps) (hy : Stands Bool Y ss) (hv : ∀ E,V.den E = (SV.bool v).den E) (hz : Stands Msg Z ms)
  (hr : res = (⟨n,r,p,dl,ps,ss,v⟩,ms)) :
  (Tree.ret (.tup [.agg [.int .i64 n,.int .i64 r,.int .i64 p,.int .i64 dl,X,Y,V],Z])).holds P ⟨w,H⟩ (RetD w H fun ds=>.tup [coSV (ds 0) (ds 1) res.1,.dat ((ds 2).like res.2)]) := by
 subst hr
 obtain ⟨d,h1,h2,h3,h4⟩ := hx
 obtain ⟨d',h1',h2',h3',h4'⟩ := hy
 obtain ⟨d'',h1'',h2'',h3'',h4''⟩ := hz
 refine ret_D (fun i=>match i with | 0=>d | 1=>d' | _=>d'') (fun E E'=>?_) (fun H' ho=>?_)
 ·have : V.den E = (SV.bool v).den E' := by rw [hv]; rfl
  simp only [SV.den,SV.denL,coSV,D.like_self h2 h3,D.like_self h2' h3',D.like_self h2'' h3'',h1,h1',h1'',this]
 ·simp only [SV.Ok,SV.OkL,coSV,D.like_self h2 h3,D.like_self h2' h3',D.like_self h2'' h3''] at ho ⊢
  exact ⟨⟨trivial,trivial,trivial,trivial,⟨h4 _ ho.1.2.2.2.2.1,h2.slc⟩,⟨h4' _ ho.1.2.2.2.2.2.1,h2'.slc⟩,trivial,trivial⟩,⟨h4'' _ ho.2.1,h2''.slc⟩,trivial⟩

theorem ret_intsB {X V : SV} {xs : List Int} {v : Bool} {res : List Int × Bool} (hx : Stands Int X xs) (hv : ∀ E,V.den E = (SV.bool v).den E) (hr : res = (xs,v)) :
  (Tree.ret (.tup [X,V])).holds P ⟨w,H⟩ (RetD w H fun ds=>.tup [.dat ((ds 0).like res.1),.bool res.2]) := by
 subst hr
 obtain ⟨d,h1,h2,h3,h4⟩ := hx
 refine ret_D (fun _=>d) (fun E E'=>?_) (fun H' ho=>?_)
 ·have : V.den E = (SV.bool v).den E' := by rw [hv]; rfl
  simp only [SV.den,SV.denL,D.like_self h2 h3,h1,this]
 ·simp only [SV.Ok,SV.OkL,D.like_self h2 h3] at ho ⊢
  exact ⟨⟨h4 _ ho.1,h2.slc⟩,trivial,trivial⟩

theorem ret_msgs' {X : SV} {ms r : List Msg} (hx : Stands Msg X ms) (hr : r = ms) : (Tree.ret X).holds P ⟨w,H⟩ (RetD w H fun ds=>.dat ((ds 0).like r)) := by
 subst hr
 obtain ⟨d,h1,h2,h3,h4⟩ := hx
 refine ret_D (fun _=>d) (fun E E'=>?_) (fun H' ho=>?_)
 ·simp only [SV.den,D.like_self h2 h3,h1]
 ·simp only [SV.Ok,D.like_self h2 h3] at ho ⊢
  exact ⟨h4 _ ho,h2.slc⟩
end

theorem msg_row' {a b c d e f : Int} {m : Msg} (hm : m = ⟨a,b,c,d,e,f,[],[]⟩) :
  SRows Msg [[.int .i64 a,.int .i64 b,.int .i64 c,.int .i64 d,.int .i64 e,.int .i64 f,.slc none 0 [],.slc none 0 []]] [m] := by
 subst hm
 exact rows_one (ok_msg ..) rfl

theorem bool_at {d : D} (hd : d.Is Bool) {j : Nat} (hj : j < (d.to Bool).length) :
  (0 ≤ (j : Int) ∧ (j : Int) < (d.len : Int) ∧ d.sz = 1) ∧ d.HasCell (Int.toNat j) 0 .bool ∧ d.getBool (Int.toNat j) 0 = (d.to Bool)[j] := by
 obtain ⟨h1,h2⟩ := bool_cell hd hj
 exact ⟨⟨by omega,by rw [D.Is.length (α := Bool)]; omega,by rw [hd.size hj]; rfl⟩,h2,h1⟩

theorem range_snoc {α : Type _} (f : Nat → α) (i : Nat) : (List.range (i + 1)).map f = (List.range i).map f ++ [f i] := by
 rw [List.range_succ,List.map_append]; rfl

theorem take_eq' {α : Type _} {xs ys : List α} {j : Nat} (hx : j < xs.length) (hy : j < ys.length) : xs.take (j + 1) = ys.take (j + 1) ↔ xs.take j = ys.take j ∧ xs[j] = ys[j] := by
 rw [List.take_succ_eq_append_getElem hx,List.take_succ_eq_append_getElem hy]
 constructor
 ·intro h
  have := List.append_inj h (by simp; omega)
  exact ⟨this.1,by simpa using this.2⟩
 ·rintro ⟨h1,h2⟩; rw [h1,h2]

theorem ne_of_take' {α : Type _} {xs ys : List α} {j : Nat} (hx : j < xs.length) (hy : j < ys.length) (h : xs[j] ≠ ys[j]) : xs ≠ ys := by
 rintro rfl; exact h rfl
end Sx

namespace Sv.B21

theorem lawClone1 : OLaw Try.prog 54 (spClone Int 3) := by
 refine olaw_clone (by kernel_rfl) fun H w d hok hd hlen=>?_
 apply execT_sound (noCtr _) (fun _=>false) 19
 rw [cl1_in]
 refine ⟨fun hc=>?_,fun hc hs=>⟨⟨rfl,hd.fits,by simp only [len_slc,List.length_nil]; omega,by simp only [len_slc,List.length_nil]; omega⟩,fun hs1=>?_⟩⟩
 ·have hc : d.isNil = true := hc
  have := nil_rows hok hc
  exact own_nil (h := .slc none 1 []) (by rw [this]; rfl)
 ·exact own_ret (f := Try.f54) (j := 1007) (h := hs1 0 0) (by kernel_rfl) (by kernel_rfl) rfl rfl

theorem lawClone2 : OLaw Try.prog 82 (spClone Bool 4) := by
 refine olaw_clone (by kernel_rfl) fun H w d hok hd hlen=>?_
 apply execT_sound (noCtr _) (fun _=>false) 19
 rw [cl2_in]
 refine ⟨fun hc=>?_,fun hc hs=>⟨⟨rfl,hd.fits,by simp only [len_slc,List.length_nil]; omega,by simp only [len_slc,List.length_nil]; omega⟩,fun hs1=>?_⟩⟩
 ·have hc : d.isNil = true := hc
  have := nil_rows hok hc
  exact own_nil (h := .slc none 1 []) (by rw [this]; rfl)
 ·exact own_ret (f := Try.f82) (j := 1007) (h := hs1 0 0) (by kernel_rfl) (by kernel_rfl) rfl rfl

theorem all1_loop {H : HV} {b : Nat} {n r kind : Int} {row : List D} (hn : n ≤ 8) (w : World) :
  Runs Try.prog ⟨w,H⟩ (all1L (rowD b (.int .i64 n :: .int .i64 r :: row)) (.slc none 8 []) kind n 0) (RetD w H fun ds=>.dat ((ds 0).like (msgsTo n r kind))) := by
 refine runs_loop (fun p : D × Nat=>all1L (rowD b (.int .i64 n :: .int .i64 r :: row)) p.1 kind n p.2)
  (fun p=>p.2 ≤ n.toNat ∧ p.1.Is Msg ∧ p.1.sz = 8 ∧ p.1.to Msg = (List.range p.2).map fun (i : Nat)=>(⟨kind,n,(i : Int),r,0,0,[],[]⟩ : Msg))
  (fun p=>n.toNat - p.2) (fun _=>rfl) ?_ (.slc none 8 [],0) ⟨Nat.zero_le _,is_nil _ _,rfl,rfl⟩
 intro ⟨out,i⟩ ⟨hi,hm,hs,hto⟩ ih
 simp only at hi hm hs hto
 apply exec_sound (noCtr _) 200
 rw [all1_go]
 have g0 : (rowD b (.int .i64 n :: .int .i64 r :: row)).getInt 0 0 = n := rfl
 have g1 : (rowD b (.int .i64 n :: .int .i64 r :: row)).getInt 0 1 = r := rfl
 have hml := D.Is.length (α := Msg) out
 rw [hto] at hml
 simp only [List.length_map,List.length_range] at hml
 rw [g0,g1]
 refine ⟨fun hc hs'=>⟨⟨n,rfl⟩,⟨r,rfl⟩,⟨hs,.inr rfl,by simp only [len_slc,List.length_cons,List.length_nil]; omega,by simp only [len_slc,List.length_cons,List.length_nil]; omega⟩,?_⟩,fun hc=>?_⟩
 ·simp only [decide_eq_true_eq] at hc
  have hr := rows_app (rows_of hm) (msg_row' (m := ⟨kind,n,(i : Int),r,0,0,[],[]⟩) rfl)
  obtain ⟨i1,i2⟩ := is_of (h := D.hd (hs' 15 0)) (s := 8) rfl hr
  have := ih (.slc (D.hd (hs' 15 0)) 8 (List.append (D.rows out) (D.rows (D.slc (D.hd (hs' 14 0)) 8 [[D.int IntKind.i64 kind,D.int IntKind.i64 n,D.int IntKind.i64 i,D.int IntKind.i64 r,D.int IntKind.i64 0,D.int IntKind.i64 0,D.slc none 0 [],D.slc none 0 []]]))),i + 1)
   ⟨by omega,i1,rfl,i2.trans (by rw [hto,range_snoc])⟩ (by simp only; omega)
  simp only at this
  rw [← wrap_succ (n := 9) (by omega) (by omega)] at this
  exact this
 ·simp only [decide_eq_false_iff_not] at hc
  have : i = n.toNat := by omega
  subst this
  exact ret_msgs' (stands_dat hm hto) rfl

theorem msgsTo_plain (n r k : Int) : ∀ m,m ∈ msgsTo n r k → m.values = [] ∧ m.body = [] := by
 intro m hm
 simp only [msgsTo,List.mem_map] at hm
 obtain ⟨i,_,rfl⟩ := hm
 exact ⟨rfl,rfl⟩

theorem lawAll1 : PLaw Try.prog 50 spAllP := by
 refine ⟨by kernel_rfl,fun H E b row cs args hrow hfree hcs hargs=>?_⟩
 unfold spAllP
 split
 ·rename_i heq
  split at heq
  ·rename_i n r cs'
   split at heq
   ·rename_i k
    split at heq
    ·rename_i hlen
     cases heq
     intro hp w hc
     have hn : n ≤ 8 := hp _ (List.mem_singleton.2 rfl)
     have hrl : row.length = 7 := by
      have := congrArg List.length hcs
      rw [SV.denL_eq] at this
      simp only [List.length_map,List.length_cons] at this hlen
      omega
     obtain ⟨a,a',row',rfl⟩ : ∃ a a' row',row = a :: a' :: row' := by
      match row,hrl with
      | a :: a' :: row',_=>exact ⟨a,a',row',rfl⟩
     simp only [SV.denL,SV.den,List.map_cons,List.cons.injEq] at hcs
     have e1 := val_int hcs.1.symm
     have e2 := val_int hcs.2.1.symm
     subst e1; subst e2
     have hcall := calls_of (args := [.elt (rowD b (.int .i64 n :: .int .i64 r :: row')) 0 0,.int .i64 k]) (P := Try.prog) (f := 50) (H := H) (w := w)
      (R := RetD w H fun ds=>.dat ((ds 0).like (msgsTo n r k))) (by kernel_rfl) ⟨hrow,trivial,trivial⟩ E hc (by
       apply exec_sound (noCtr _) 200
       rw [all1_in]
       refine ⟨⟨n,rfl⟩,?_⟩
       have g0 : (rowD b (.int .i64 n :: .int .i64 r :: row')).getInt 0 0 = n := rfl
       rw [g0]
       exact vecTo 0 50 8 none 5 (all1L (rowD b (.int .i64 n :: .int .i64 r :: row')) (.slc none 8 []) k n 0) (by kernel_rfl) (all1_loop hn w))
     refine Calls.mono hcall fun e w' ⟨v,he,H',ha,ds,hden,hok⟩=>⟨v,H',he,ha,fun i=>ds i,hden E,fun H2 h2=>?_⟩
     simp only [SV.Ok] at hok ⊢
     refine ⟨msgs_far (b := b) (n := 7) (Nat.le_refl _) (fun o ho=>?_) h2 (by rw [D.like_to]; exact msgsTo_plain n r k) (D.like_is _ _) hok.1,hok.2⟩
     cases hx : H' b o with
     | none=>rfl
     | some x =>
      rcases ha.fresh b o x hx with h3 | h3
      ·rw [hfree o (by rw [hrl]; exact ho)] at h3; cases h3
      ·have h0 : H b 0 = some (.int .i64 n) := by
        cases hrow with
        | slc _ _ _ _ _ _ _ h4 _=>have := h4 0 0 _ _ rfl rfl; simpa [D.val] using this
       have := (good_start hc E).lt h0
       omega
    ·cases heq
   ·cases heq
  ·cases heq
 ·trivial

theorem all2_loop {H : HV} {n r p dl kind : Int} {d s : D} {v : Bool} (hn : n ≤ 8) (w : World) :
  Runs Try.prog ⟨w,H⟩ (all2L n r p dl d s (.slc none 8 []) (.bool v) kind 0) (RetD w H fun ds=>.dat ((ds 0).like (msgsTo n r kind))) := by
 refine runs_loop (fun q : D × Nat=>all2L n r p dl d s q.1 (.bool v) kind q.2)
  (fun q=>q.2 ≤ n.toNat ∧ q.1.Is Msg ∧ q.1.sz = 8 ∧ q.1.to Msg = (List.range q.2).map fun (i : Nat)=>(⟨kind,n,(i : Int),r,0,0,[],[]⟩ : Msg))
  (fun q=>n.toNat - q.2) (fun _=>rfl) ?_ (.slc none 8 [],0) ⟨Nat.zero_le _,is_nil _ _,rfl,rfl⟩
 intro ⟨out,i⟩ ⟨hi,hm,hs,hto⟩ ih
 simp only at hi hm hs hto
 apply exec_sound (noCtr _) 200
 rw [all2_go]
 have hml := D.Is.length (α := Msg) out
 rw [hto] at hml
 simp only [List.length_map,List.length_range] at hml
 refine ⟨fun hc hs'=>⟨⟨hs,.inr rfl,by simp only [len_slc,List.length_cons,List.length_nil]; omega,by simp only [len_slc,List.length_cons,List.length_nil]; omega⟩,fun hs1=>?_⟩,fun hc=>?_⟩
 ·simp only [decide_eq_true_eq] at hc
  have hr := rows_app (rows_of hm) (msg_row' (m := ⟨kind,n,(i : Int),r,0,0,[],[]⟩) rfl)
  obtain ⟨i1,i2⟩ := is_of (h := D.hd (hs1 0 0)) (s := 8) rfl hr
  have := ih (.slc (D.hd (hs1 0 0)) 8 (List.append (D.rows out) (D.rows (D.slc (D.hd (hs' 0 0)) 8 [[D.int IntKind.i64 kind,D.int IntKind.i64 n,D.int IntKind.i64 i,D.int IntKind.i64 r,D.int IntKind.i64 0,D.int IntKind.i64 0,D.slc none 0 [],D.slc none 0 []]]))),i + 1)
   ⟨by omega,i1,rfl,i2.trans (by rw [hto,range_snoc])⟩ (by simp only; omega)
  simp only at this
  rw [← wrap_succ (n := 9) (by omega) (by omega)] at this
  exact this
 ·simp only [decide_eq_false_iff_not] at hc
  have : i = n.toNat := by omega
  subst this
  exact ret_msgs' (stands_dat hm hto) rfl

theorem lawAll2 : Law Try.prog 51 ((rdCo.two rdInt).sp spAll2) := by
 refine law_in _ (by kernel_rfl) fun H w ⟨⟨n,r,p,dl,d,s,v⟩,k⟩ hok hp=>?_
 have hn : n ≤ 8 := hp _ (List.mem_singleton.2 rfl)
 apply exec_sound (noCtr _) 200
 rw [show (rdCo.two rdInt).canon (⟨n,r,p,dl,d,s,v⟩,k) = [.agg [.int .i64 n,.int .i64 r,.int .i64 p,.int .i64 dl,.dat d,.dat s,.bool v],.int .i64 k] from rfl,all2_in]
 exact vecTo 9 50 8 none 5 (all2L n r p dl d s (.slc none 8 []) (.bool v) k 0) (by kernel_rfl) (all2_loop hn w)

theorem ctBOk : Ctrs.Ok Try.prog ctB := by
 intro x hx
 simp only [ctB,List.mem_cons,List.not_mem_nil,or_false] at hx
 rcases hx with rfl | rfl | rfl | rfl | rfl | rfl | rfl | rfl | rfl
 ·exact ctrOf_ok lawCC1
 ·exact ctrOf_ok lawCC2
 ·exact ctrOf_ok (lawNew 19 (.inl rfl))
 ·exact ctrOf_ok (lawNew 20 (.inr rfl))
 ·exact ctrOf_ok lawSameInts
 ·exact pCtr_ok lawAll1
 ·exact ctrOf_ok lawAll2
 ·exact oCtr_ok lawClone1
 ·exact oCtr_ok lawClone2

theorem lawRes (f : FuncId) (hf : f = 21 ∨ f = 22) : Law Try.prog f (rdCo.one.sp spRes) := by
 rcases hf with rfl | rfl
 all_goals
  refine law_in _ (by kernel_rfl) fun H w ⟨n,r,p,dl,d,s,v⟩ hok hp=>?_
  obtain ⟨hd,hs⟩ := hp _ (List.mem_singleton.2 rfl)
  simp only at hd hs
  clear hp hok
  have hl := D.Is.length (α := Int) d
  apply exec_sound ctBOk 300
  rw [show rdCo.one.canon ⟨n,r,p,dl,d,s,v⟩ = [.agg [.int .i64 n,.int .i64 r,.int .i64 p,.int .i64 dl,.dat d,.dat s,.bool v]] from rfl]
  first | rw [res1_in] | rw [res2_in]
  simp only [CoD.co]
  refine ⟨⟨hd,hs⟩,fun hc=>ret_intsB stands_nils lb_den ?_,fun hc=>⟨fun hv=>ret_intsB stands_nils lb_den ?_,fun hv=>?_⟩⟩
  ·simp only [bne_iff_ne,ne_eq] at hc
   simp [resultCo,hc]
  ·simp only [Bool.not_eq_true'] at hv
   simp [resultCo,hv]
  ·simp only [bne_eq_false_iff_eq] at hc
   simp only [Bool.not_eq_false'] at hv
   subst hv
   have hz := checkCo_zero.1 hc
   first
    | exact ⟨⟨hd,by omega⟩,fun hs1=>ret_intsB (stands_rows rfl (rows_of hd)) lb_den (by simp [resultCo,hc])⟩
    | exact ret_intsB (stands_self hd) lb_den (by simp [resultCo,hc])

theorem lawStart (f : FuncId) (hf : f = 13 ∨ f = 14) : Law Try.prog f ((rdCo.three rdInt rdInt).sp spStart) := by
  rcases hf with rfl | rfl
  all_goals
    refine law_in _ (by kernel_rfl) fun H w ⟨⟨n,r,p,dl,d,s,v⟩,now,patience⟩ hok hp=>?_
    obtain ⟨hd,hs⟩ := hp _ (List.mem_singleton.2 rfl)
    simp only at hd hs
    clear hp hok
    apply exec_sound ctBOk 500
    rw [show (rdCo.three rdInt rdInt).canon (⟨n,r,p,dl,d,s,v⟩,now,patience) = [.agg [.int .i64 n,.int .i64 r,.int .i64 p,.int .i64 dl,.dat d,.dat s,.bool v],.int .i64 now,.int .i64 patience] from rfl]
    first | rw [start1_in] | rw [start2_in]
    simp only [CoD.co]
    refine ⟨⟨hd,hs⟩,fun hc=>ret_co3 stands_nils stands_nils lb_den stands_nils ?_,fun hc=>?_⟩
    · simp only [bne_iff_ne,ne_eq] at hc
      have := (checkCo_or ⟨n,r,p,dl,d.to Int,s.to Bool,v⟩).resolve_left hc
      simp [startCo,this,zCo]
    simp only [bne_eq_false_iff_eq] at hc
    have hz := checkCo_zero.1 hc
    rw [newCo_eq hz.1]
    have hw : 0 ≤ now ∧ now ≤ 1073741824 → IntKind.i64.wrap (1073741824 - now) = 1073741824 - now := fun h=>wrap64 (by omega) (by omega)
    have hw2 : IntKind.i64.wrap (r + 1) = r + 1 := wrap64 (by omega) (by omega)
    have hw3 : 0 ≤ now ∧ now ≤ 1073741824 ∧ 1 ≤ patience ∧ patience ≤ 1073741824 - now → IntKind.i64.wrap (now + patience) = now + patience := fun h=>wrap64 (by omega) (by omega)
    rw [startCo_eq hc]
    rw [hw2]
    repeat' first
      | refine ⟨fun hc=>?_,fun hc=>?_⟩
      | refine fun (hs : Nat → Nat → D)=>?_
      | refine ⟨hz.1.2,?_⟩
      | refine ret_co3 stands_nils stands_nils lb_den stands_nils ?_
      | refine ret_co3 stands_like stands_like (fun _=>rfl) stands_like ?_
      | fail
    all_goals
      clear hd hs
      simp only [decide_eq_true_eq,decide_eq_false_iff_not,bne_iff_ne,ne_eq,bne_eq_false_iff_eq,Bool.not_eq_true',Bool.not_eq_false',Decidable.not_not,ge_iff_le,gt_iff_lt,Bool.not_not] at *
      first
        | (rw [if_pos (by first | omega | (have := hw ⟨by omega,by omega⟩; omega))]; rfl)
        | (rw [if_neg (by first | omega | (have := hw ⟨by omega,by omega⟩; omega))]
           first
             | (rw [if_pos (by omega)]; rfl)
             | (rw [if_neg (by omega),if_pos (by omega)]; rfl)
             | (have h1 := hw ⟨by omega,by omega⟩
                rw [if_neg (by omega),if_neg (by omega),hw3 ⟨by omega,by omega,by omega,by omega⟩]))
        | (exfalso; omega)

theorem lawSameCo : Law Try.prog 15 ((rdCo.two rdCo).sp spSameCo) := by
 refine law_in _ (by kernel_rfl) fun H w ⟨⟨n,r,p,dl,d,s,v⟩,⟨n',r',p',dl',d',s',v'⟩⟩ hok hp=>?_
 obtain ⟨hd,hs,hd',hs',hlen,hlen'⟩ := hp _ (List.mem_singleton.2 rfl)
 simp only at hd hs hd' hs' hlen hlen'
 clear hp hok
 have hl := D.Is.length (α := Int) d
 have hls := D.Is.length (α := Bool) s
 have hls' := D.Is.length (α := Bool) s'
 apply exec_sound ctBOk 500
 rw [show (rdCo.two rdCo).canon (⟨n,r,p,dl,d,s,v⟩,⟨n',r',p',dl',d',s',v'⟩) = [.agg [.int .i64 n,.int .i64 r,.int .i64 p,.int .i64 dl,.dat d,.dat s,.bool v],.agg [.int .i64 n',.int .i64 r',.int .i64 p',.int .i64 dl',.dat d',.dat s',.bool v']] from rfl,sameco_in]
 simp only [CoD.co,Co.mk.injEq]
 refine ⟨fun h1=>ret_lb ?_,fun h1=>⟨fun h2=>ret_lb ?_,fun h2=>⟨fun h3=>ret_lb ?_,fun h3=>⟨fun h4=>ret_lb ?_,fun h4=>⟨fun h5=>ret_lb ?_,fun h5=>⟨⟨hd,hd',hlen⟩,fun h6=>ret_lb ?_,fun h6=>⟨fun h7=>ret_lb ?_,fun h7=>?_⟩⟩⟩⟩⟩⟩⟩
 ·simp at h1; simp [h1]
 ·simp at h2; simp [h2]
 ·simp at h3; simp [h3]
 ·simp at h4; simp [h4]
 ·simp at h5; simp [h5]
 ·simp at h6; simp [h6]
 ·simp [hls,hls'] at h7
  symm
  simp only [decide_eq_false_iff_not]
  rintro ⟨_,_,_,_,_,h,_⟩
  exact h7 (by rw [h])
 ·simp only [bne_eq_false_iff_eq,Bool.not_eq_false',decide_eq_true_eq] at h1 h2 h3 h4 h5 h6 h7
  subst h1; subst h2; subst h3; subst h4; subst h5
  have h7 : (s.to Bool).length = (s'.to Bool).length := by omega
  refine runs_loop (fun j : Nat=>samecoL n r p dl n r p dl d s d' s' v v j) (fun j=>j ≤ (s.to Bool).length ∧ (s.to Bool).take j = (s'.to Bool).take j) (fun j=>(s.to Bool).length - j) (fun _=>rfl) ?_ 0 ⟨Nat.zero_le _,by simp⟩
  intro j ⟨hj,hpre⟩ ih
  apply exec_sound ctBOk 500
  rw [sameco_go]
  refine ⟨fun hc=>?_,fun hc=>?_⟩
  ·simp [hls] at hc
   have hc' : j < (s'.to Bool).length := by omega
   obtain ⟨c1,c2,c3⟩ := bool_at hs hc
   obtain ⟨d1,d2,d3⟩ := bool_at hs' hc'
   rw [c3,d3]
   refine fun _=>⟨c1,c2,d1,d2,fun hx=>ret_lb ?_,fun hx=>?_⟩
   ·simp only [Bool.not_eq_true',decide_eq_false_iff_not] at hx
    simp [ne_of_take' hc hc' hx]
   ·simp only [Bool.not_eq_false',decide_eq_true_eq] at hx
    have := ih (j + 1) ⟨hc,(take_eq' hc hc').2 ⟨hpre,hx⟩⟩ (by omega)
    rw [← wrap_succ hc (by omega)] at this
    exact this
  ·simp [hls] at hc
   refine ret_lb ?_
   rw [List.take_of_length_le (by omega),List.take_of_length_le (by omega)] at hpre
   simp [hpre,h6]

theorem isBytes_of' {d : D} (h : d.Is Byte) : d.IsBytes := by
 obtain ⟨a,b,c,rfl,hz,h2⟩ := h
 unfold D.IsBytes
 simp only [rows_slc]
 clear hz
 induction c with
 | nil=>exact ⟨[],rfl⟩
 | cons x r ih =>
  obtain ⟨ns,hns⟩ := ih (fun y hy=>h2 y (List.mem_cons_of_mem _ hy))
  obtain ⟨n,hn⟩ := h2 x List.mem_cons_self
  exact ⟨n :: ns,by rw [hn,hns]; rfl⟩

theorem bytes_nil' {d : D} (h : d.Is Byte) (h' : d.to Byte = []) : d.bytesOf = ByteArray.empty := by
 obtain ⟨a,b,c,rfl,_,h2⟩ := h
 have : c = [] := by simpa [D.to] using h'
 subst this
 rfl

theorem lawSameMsgs : Law Try.prog 16 ((rdD.two rdD).sp spSameMsgs3) := by
 refine law_in _ (by kernel_rfl) fun H w ⟨a,b⟩ hok hp=>?_
 obtain ⟨ha,hb,hlen,hpl,hpl'⟩ := hp _ (List.mem_singleton.2 rfl)
 simp only at ha hb hlen hpl hpl'
 clear hp hok
 have hla := D.Is.length (α := Msg) a
 have hlb := D.Is.length (α := Msg) b
 rw [hla] at hlen
 apply exec_sound ctBOk 500
 rw [show (rdD.two rdD).canon (a,b) = [.dat a,.dat b] from rfl,samems_in]
 refine ⟨fun h1=>ret_lb ?_,fun h1=>?_⟩
 ·simp [hla,hlb] at h1
  symm
  simp only [decide_eq_false_iff_not]
  intro h
  exact h1 (by rw [h])
 simp only [bne_eq_false_iff_eq] at h1
 have h1 : (a.to Msg).length = (b.to Msg).length := by omega
 refine runs_loop (fun j : Nat=>samemsL a b j) (fun j=>j ≤ (a.to Msg).length ∧ (a.to Msg).take j = (b.to Msg).take j) (fun j=>(a.to Msg).length - j) (fun _=>rfl) ?_ 0 ⟨Nat.zero_le _,by simp⟩
 intro j ⟨hj,hpre⟩ ih
 apply exec_sound ctBOk 500
 rw [samems_go]
 refine ⟨fun hc hs=>?_,fun hc=>?_⟩
 ·simp [hla] at hc
  have hc' : j < (b.to Msg).length := by omega
  obtain ⟨q0,q1,q2,q3,q4,q5,q6,q7,q8,q9,q10⟩ := msg_cell ha hc
  obtain ⟨z0,z1,z2,z3,z4,z5,z6,z7,z8,z9,z10⟩ := msg_cell hb hc'
  obtain ⟨p1,p2⟩ := hpl _ (List.getElem_mem hc)
  have p1' := hpl' _ (List.getElem_mem hc')
  have b1 := bytes_nil' q9 (q10.trans p1)
  have b2 := bytes_nil' z9 (z10.trans p1')
  have ej : Int.toNat (j : Int) = j := by simp
  rw [ej]
  have sza : a.sz = 8 := ha.size hc
  have szb : b.sz = 8 := hb.size hc'
  rw [b1,b2,q1,q2,q3,q4,q5,q6,q8,z1,z2,z3,z4,z5,z6,z8]
  have no : ∀ {x : Prop},(x → False) → ((a.to Msg)[j] = (b.to Msg)[j] → x) → (a.to Msg) ≠ b.to Msg := fun h1 h2 h3=>h1 (h2 (by simp only [h3]))
  refine ⟨⟨by omega,by omega,sza⟩,q0,⟨by omega,by omega,szb⟩,z0,fun h=>ret_lb ?_,fun e1=>⟨fun h=>ret_lb ?_,fun e2=>⟨fun h=>ret_lb ?_,fun e3=>⟨fun h=>ret_lb ?_,fun e4=>⟨fun h=>ret_lb ?_,fun e5=>⟨fun h=>ret_lb ?_,fun e6 =>
   ⟨⟨q7,z7,?_⟩,fun h=>ret_lb ?_,fun e7=>⟨isBytes_of' q9,isBytes_of' z9,fun h=>?_,fun _=>?_⟩⟩⟩⟩⟩⟩⟩⟩
  ·simp only [bne_iff_ne,ne_eq] at h; symm; simp only [decide_eq_false_iff_not]; exact no h fun h=>by rw [h]
  ·simp only [bne_iff_ne,ne_eq] at h; symm; simp only [decide_eq_false_iff_not]; exact no h fun h=>by rw [h]
  ·simp only [bne_iff_ne,ne_eq] at h; symm; simp only [decide_eq_false_iff_not]; exact no h fun h=>by rw [h]
  ·simp only [bne_iff_ne,ne_eq] at h; symm; simp only [decide_eq_false_iff_not]; exact no h fun h=>by rw [h]
  ·simp only [bne_iff_ne,ne_eq] at h; symm; simp only [decide_eq_false_iff_not]; exact no h fun h=>by rw [h]
  ·simp only [bne_iff_ne,ne_eq] at h; symm; simp only [decide_eq_false_iff_not]; exact no h fun h=>by rw [h]
  ·have := D.Is.length (α := Int) (a.cell j 6)
   rw [q8,p2] at this
   rw [this]; simp
  ·simp only [Bool.not_eq_true',decide_eq_false_iff_not] at h; symm; simp only [decide_eq_false_iff_not]; exact no h fun h=>by rw [h]
  ·exfalso
   have : List.beq (ByteArray.toList ByteArray.empty) (ByteArray.toList ByteArray.empty) = true := by
    show (ByteArray.toList ByteArray.empty == ByteArray.toList ByteArray.empty) = true
    simp
   rw [this] at h
   cases h
  ·simp only [bne_eq_false_iff_eq,Bool.not_eq_false',decide_eq_true_eq] at e1 e2 e3 e4 e5 e6 e7
   have hx : (a.to Msg)[j] = (b.to Msg)[j] := by
    rcases hA : (a.to Msg)[j] with ⟨x1,x2,x3,x4,x5,x6,x7,x8⟩
    rcases hB : (b.to Msg)[j] with ⟨y1,y2,y3,y4,y5,y6,y7,y8⟩
    rw [hA] at e1 e2 e3 e4 e5 e6 e7 p1
    rw [hB] at e1 e2 e3 e4 e5 e6 e7 p1'
    simp only at e1 e2 e3 e4 e5 e6 e7 p1 p1'
    rw [e1,e2,e3,e4,e5,e6,e7,p1,p1']
   have := ih (j + 1) ⟨hc,(take_eq' hc hc').2 ⟨hpre,hx⟩⟩ (by omega)
   rw [← wrap_succ hc (by omega)] at this
   exact this
 ·simp [hla] at hc
  refine ret_lb ?_
  rw [List.take_of_length_le (by omega),List.take_of_length_le (by omega)] at hpre
  simp [hpre]
end Sv.B21
end
noncomputable section
open Go Go.Proofs Sx
namespace Sv.B21
def ixL (d : D) (n j : Int) : Conf := Conf.mk (SFrm.mk 71 none none [Item.inLoop (cA 71 [1,0,1,0,0]),Item.inBlock 0,Item.code (cA 71 [1,1])]
 (mkJ 0 [(0,.dat d),(1,.int .i64 n),(7,.int .i64 d.len),(8,.int .i64 j)] 0 19)) [] []
def hasL (d : D) (n j : Int) : Conf := Conf.mk (SFrm.mk 73 none none [Item.inLoop (cA 73 [1,0,1,0,0]),Item.inBlock 0,Item.code (cA 73 [1,1])]
 (mkJ 0 [(0,.dat d),(1,.int .i64 n),(5,.int .i64 j)] 0 18)) [] []
def everyL (d : D) (j : Int) : Conf := Conf.mk (SFrm.mk 64 none none [Item.inLoop (cA 64 [1,0,1,0,0]),Item.inBlock 0,Item.code (cA 64 [1,1])]
 (mkJ 0 [(0,.dat d),(3,.int .i64 j)] 0 15)) [] []
def cm1aL (mr mp mt mi mu : Int) (f : Bool) (wt hd : D) (j : Int) : Conf := Conf.mk (SFrm.mk 38 none none [Item.inLoop (cA 38 [1,1,0,1,0,0]),Item.inBlock 1,Item.code (cA 38 [1,1,1])]
 (mkJ 0 [(1,.ptr 0 0),(46,.dat wt),(47,.int .i64 wt.len),(48,.int .i64 j)] 0 107)) [] [(0,.cells 28 [.int .i64 mr,.int .i64 mp,.int .i64 mt,.int .i64 mi,.bool f,.int .i64 mu,.dat wt,.dat hd])]
def cm1bL (mr mp mt mi mu : Int) (f : Bool) (wt hd : D) (j : Int) : Conf := Conf.mk (SFrm.mk 38 none none [Item.inLoop (cA 38 [1,1,1,0,1,0,0]),Item.inBlock 3,Item.code (cA 38 [1,1,1,1])]
 (mkJ 0 [(1,.ptr 0 0),(77,.dat hd),(78,.int .i64 hd.len),(79,.int .i64 j)] 0 107)) [] [(0,.cells 28 [.int .i64 mr,.int .i64 mp,.int .i64 mt,.int .i64 mi,.bool f,.int .i64 mu,.dat wt,.dat hd])]
def cm2aL (mr mp mt mi mu : Int) (f : Bool) (wt hd : D) (j : Int) : Conf := Conf.mk (SFrm.mk 39 none none [Item.inLoop (cA 39 [1,1,1,0,1,0,0]),Item.inBlock 0,Item.code (cA 39 [1,1,1,1])]
 (mkJ 0 [(1,.ptr 0 0),(3,.int .i64 j)] 0 147)) [] [(0,.cells 28 [.int .i64 mr,.int .i64 mp,.int .i64 mt,.int .i64 mi,.bool f,.int .i64 mu,.dat wt,.dat hd])]
def cm2bL (mr mp mt mi mu : Int) (f : Bool) (wt hd : D) (j : Int) : Conf := Conf.mk (SFrm.mk 39 none none [Item.inLoop (cA 39 [1,1,1,1,0,1,0,0]),Item.inBlock 2,Item.code (cA 39 [1,1,1,1,1])]
 (mkJ 0 [(1,.ptr 0 0),(4,.int .i64 j)] 0 147)) [] [(0,.cells 28 [.int .i64 mr,.int .i64 mp,.int .i64 mt,.int .i64 mi,.bool f,.int .i64 mu,.dat wt,.dat hd])]
def ctH : Ctrs := [(34,ctrOf ((rdD.two rdInt).sp spHas21)),(73,ctrOf ((rdD.two rdInt).sp spHas21))]
section
variable (n j now patience kind value : Int) (a b d s wt hd wt' hd' : D) (frozen frozen' : Bool) (mr mp mt mi mu mr' mp' mt' mi' mu' : Int) (mk mf mto mn mv me : Int) (ml mb : D) (nodes round phase deadline : Int) (valid : Bool)
theorem ix_in : exec Try.prog [] 200 (entry Try.prog 71 [.dat d,.int .i64 n]) =
 Tree.leaf
 (Conf.mk
 (SFrm.mk 71 none none
 [Item.inLoop (cA 71 [1,0,1,0,0]),Item.inBlock 0,Item.code (cA 71 [1,1])]
 (mkJ 0
 [(0,.dat d),(1,.int .i64 n),(7,.int .i64 (↑(D.len d) : Int)),
 (8,.int .i64 0)]
 0 19))
 [] []) := by kernel_rfl
theorem ct_in : exec Try.prog [(71,ctrOf ((rdD.two rdInt).sp spIdx21))] 200 (entry Try.prog 34 [.dat d,.int .i64 n]) =
 Tree.need (D.Is Int d ∧ D.len d ≤ 1048576)
 (.ret (.bool (decide ((idxP (D.to Int d) fun y=>decide (n = y)) ≥ 0)))) := by kernel_rfl
theorem has_in : exec Try.prog [] 200 (entry Try.prog 73 [.dat d,.int .i64 n]) =
 Tree.leaf
 (Conf.mk
 (SFrm.mk 73 none none
 [Item.inLoop (cA 73 [1,0,1,0,0]),Item.inBlock 0,Item.code (cA 73 [1,1])]
 (mkJ 0 [(0,.dat d),(1,.int .i64 n),(5,.int .i64 0)] 0 18))
 [] []) := by kernel_rfl
theorem every_in : exec Try.prog [] 200 (entry Try.prog 64 [.dat d]) =
 Tree.leaf
 (Conf.mk
 (SFrm.mk 64 none none
 [Item.inLoop (cA 64 [1,0,1,0,0]),Item.inBlock 0,Item.code (cA 64 [1,1])]
 (mkJ 0 [(0,.dat d),(3,.int .i64 0)] 0 15))
 [] []) := by kernel_rfl
theorem ans_in : exec Try.prog [] 200 (entry Try.prog 58 [.agg [.int .i64 mk,.int .i64 mf,.int .i64 mto,.int .i64 mn,.int .i64 mv,.int .i64 me,.dat ml,.dat mb],.int .i64 kind,.int .i64 value]) =
 Tree.all fun hs =>
 .ret
 (.dat
 (D.slc (D.hd (hs 0 0)) 8
 [[D.int .i64 kind,D.int .i64 mto,D.int .i64 mf,D.int .i64 mn,
 D.int .i64 value,D.int .i64 0,D.slc none 0 [],D.slc none 0 []]])) := by kernel_rfl
theorem thaw_in : exec Try.prog [] 200 (entry Try.prog 60 [.agg [.int .i64 mr,.int .i64 mp,.int .i64 mt,.int .i64 mi,.bool frozen,.int .i64 mu,.dat wt,.dat hd]]) =
 Tree.ret
 (SV.tup
 [.agg
 [.int .i64 mr,.int .i64 mp,.int .i64 mt,.int .i64 mi,.lb false,
 .int .i64 mu,.dat wt,.nils],
 .dat hd]) := by kernel_rfl
theorem end_in : exec Try.prog [(58,ctrOf ((rdMsg.three rdInt rdInt).sp spAns)),(60,ctrOf (rdMb.one.sp spThaw))] 200 (entry Try.prog 59 [.agg [.int .i64 mr,.int .i64 mp,.int .i64 mt,.int .i64 mi,.bool frozen,.int .i64 mu,.dat wt,.dat hd],.int .i64 now,.agg [.int .i64 mk,.int .i64 mf,.int .i64 mto,.int .i64 mn,.int .i64 mv,.int .i64 me,.dat ml,.dat mb]]) =
 Tree.br (!frozen)
 (.br (decide (mt = mr))
 (.all fun hs =>
 .ret
 (SV.tup
 [.agg
 [.int .i64 mr,.int .i64 mp,.int .i64 mt,.int .i64 mi,
 .bool frozen,.int .i64 mu,.dat wt,.dat hd],
 .nils,.dat (D.like (hs 2 0) (ansTo (MsgD.msg (MsgD.mk mk mf mto mn mv me ml mb)) 4 1))]))
 (.all fun hs =>
 .ret
 (SV.tup
 [.agg
 [.int .i64 mr,.int .i64 mp,.int .i64 mt,.int .i64 mi,
 .bool frozen,.int .i64 mu,.dat wt,.dat hd],
 .nils,.dat (D.like (hs 2 0) (ansTo (MsgD.msg (MsgD.mk mk mf mto mn mv me ml mb)) 4 0))])))
 (.br (decide (now < mu))
 (.all fun hs =>
 .need (MbD.Right (MbD.mk mr mp mr mi frozen mu wt hd))
 (.all fun hs =>
 .all fun hs_1 =>
 .ret
 (SV.tup
 [.agg
 [.int .i64 mr,.int .i64 mp,.int .i64 mr,.int .i64 mi,
 .bool false,.int .i64 mu,.dat (D.like (hs 0 0) (D.to Int wt)),
 .dat (D.like (hs 0 1) ([] : List Int))],
 .dat (D.like (hs 0 2) (D.to Int hd)),
 .dat (D.like (hs_1 4 0) (ansTo (MsgD.msg (MsgD.mk mk mf mto mn mv me ml mb)) 4 1))])))
 (.need (MbD.Right (MbD.mk mr mp mt mi frozen mu wt hd))
 (.all fun hs =>
 .all fun hs_1 =>
 .ret
 (SV.tup
 [.agg
 [.int .i64 mr,.int .i64 mp,.int .i64 mt,.int .i64 mi,
 .bool false,.int .i64 mu,.dat (D.like (hs 0 0) (D.to Int wt)),
 .dat (D.like (hs 0 1) ([] : List Int))],
 .dat (D.like (hs 0 2) (D.to Int hd)),
 .dat (D.like (hs_1 4 0) (ansTo (MsgD.msg (MsgD.mk mk mf mto mn mv me ml mb)) 4 0))])))) := by kernel_rfl
theorem give_in : exec Try.prog [(51,ctrOf ((rdCo.two rdInt).sp spAll2))] 200 (entry Try.prog 65 [.agg [.int .i64 nodes,.int .i64 round,.int .i64 phase,.int .i64 deadline,.dat d,.dat s,.bool valid]]) =
 Tree.all fun hs =>
 .need (nodes ≤ 8)
 (.ret
 (SV.tup
 [.agg
 [.int .i64 nodes,.int .i64 round,.int .i64 0,.int .i64 deadline,
 .dat d,.dat s,.lb false],
 .dat (D.like (hs 2 0) (msgsTo nodes round 24))])) := by kernel_rfl
theorem samemb_in : exec Try.prog ctB 300 (entry Try.prog 26 [.agg [.int .i64 mr,.int .i64 mp,.int .i64 mt,.int .i64 mi,.bool frozen,.int .i64 mu,.dat wt,.dat hd],.agg [.int .i64 mr',.int .i64 mp',.int .i64 mt',.int .i64 mi',.bool frozen',.int .i64 mu',.dat wt',.dat hd']]) =
 Tree.br (decide (mr = mr'))
 (.br (decide (mp = mp'))
 (.br (decide (mt = mt'))
 (.br (decide (mi = mi'))
 (.br (decide (frozen = frozen'))
 (.br (decide (mu = mu'))
 (.need (D.Is Int wt ∧ D.Is Int wt' ∧ D.len wt ≤ 1048576)
 (.br (decide (D.to Int wt = D.to Int wt'))
 (.need (D.Is Int hd ∧ D.Is Int hd' ∧ D.len hd ≤ 1048576)
 (.ret (.bool (decide (D.to Int hd = D.to Int hd')))))
 (.ret (.lb false))))
 (.ret (.lb false)))
 (.ret (.lb false)))
 (.ret (.lb false)))
 (.ret (.lb false)))
 (.ret (.lb false)))
 (.ret (.lb false)) := by kernel_rfl
theorem ix_go : exec Try.prog [] 200 (unroll (ixL d n j)) =
 Tree.br (decide (j < (↑(D.len d) : Int)))
 (.need (0 ≤ j ∧ j < (↑(D.len d) : Int) ∧ D.sz d = 1)
 (.need (D.HasCell d (Int.toNat j) 0 (FT.int .i64))
 (.br (decide (n = D.getInt d (Int.toNat j) 0)) (.ret (.int .i64 j))
 (.leaf
 (Conf.mk
 (SFrm.mk 71 none none
 [Item.inLoop (cA 71 [1,0,1,0,0]),Item.inBlock 0,Item.code (cA 71 [1,1])]
 (mkJ 0
 [(0,.dat d),(1,.int .i64 n),(7,.int .i64 (↑(D.len d) : Int)),
 (8,.int .i64 (IntKind.wrap .i64 (j + 1)))]
 0 19))
 [] [])))))
 (.ret (.int .i64 (Int.neg 1))) := by kernel_rfl
theorem has_go : exec Try.prog [] 200 (unroll (hasL d n j)) =
 Tree.br (decide (j < (↑(D.len d) : Int)))
 (.need (0 ≤ j ∧ j < (↑(D.len d) : Int) ∧ D.sz d = 1)
 (.need (D.HasCell d (Int.toNat j) 0 (FT.int .i64))
 (.br (decide (D.getInt d (Int.toNat j) 0 = n)) (.ret (.lb true))
 (.leaf
 (Conf.mk
 (SFrm.mk 73 none none
 [Item.inLoop (cA 73 [1,0,1,0,0]),Item.inBlock 0,Item.code (cA 73 [1,1])]
 (mkJ 0
 [(0,.dat d),(1,.int .i64 n),(5,.int .i64 (IntKind.wrap .i64 (j + 1)))] 0
 18))
 [] [])))))
 (.ret (.lb false)) := by kernel_rfl
theorem every_go : exec Try.prog [] 200 (unroll (everyL d j)) =
 Tree.br (decide (j < (↑(D.len d) : Int)))
 (.need (0 ≤ j ∧ j < (↑(D.len d) : Int) ∧ D.sz d = 1)
 (.need (D.HasCell d (Int.toNat j) 0 FT.bool)
 (.br (!D.getBool d (Int.toNat j) 0) (.ret (.lb false))
 (.leaf
 (Conf.mk
 (SFrm.mk 64 none none
 [Item.inLoop (cA 64 [1,0,1,0,0]),Item.inBlock 0,Item.code (cA 64 [1,1])]
 (mkJ 0 [(0,.dat d),(3,.int .i64 (IntKind.wrap .i64 (j + 1)))] 0 15))
 [] [])))))
 (.ret (.lb true)) := by kernel_rfl
theorem cm1_in : 
 let z1 : Tree := (.leaf (Conf.mk (SFrm.mk 38 none none [Item.inLoop (cA 38 [1,1,0,1,0,0]),Item.inBlock 1,Item.code (cA 38 [1,1,1])] (mkJ 0 [(1,.ptr 0 0),(46,.dat wt),(47,.int .i64 (↑(D.len wt) : Int)),(48,.int .i64 0)] 0 107)) [] [(0,OBlk.cells 28 [.int .i64 mr,.int .i64 mp,.int .i64 mt,.int .i64 mi,.bool frozen,.int .i64 mu,.dat wt,.dat hd])]))
 let z2 : Tree := (.br (decide (mp < 0)) (.br (decide (mp < 0)) (.ret (.int .i64 3)) z1) (.br (decide (mp > mi)) (.br (decide (mp > mi)) (.ret (.int .i64 3)) z1) (.br (decide (mi > 4096)) (.br (decide (mi > 4096)) (.ret (.int .i64 3)) z1) (.br (!frozen) (.br (decide ((↑(D.len hd) : Int) > 0)) (.ret (.int .i64 3)) z1) z1))))
 exec Try.prog ctH 400 (entry Try.prog 38 [.agg [.int .i64 mr,.int .i64 mp,.int .i64 mt,.int .i64 mi,.bool frozen,.int .i64 mu,.dat wt,.dat hd]]) =
 Tree.br (decide (mr ≥ 0)) (.br (!decide (mr ≤ 1073741824)) (.br (!decide (mr ≤ 1073741824)) (.ret (.int .i64 3)) z2) (.br (decide (mu ≥ 0)) (.br (!decide (mu ≤ 1073741824)) (.br (!decide (mu ≤ 1073741824))
 (.ret (.int .i64 3)) z2) (.br (decide (mt < 0)) (.br (decide (mt < 0)) (.ret (.int .i64 3)) z2) (.br (decide (mt > mr)) (.ret (.int .i64 3)) z2))) (.ret (.int .i64 3)))) (.ret (.int .i64 3)) := by
 intros; kernel_rfl
theorem cm2_in : exec Try.prog ctH 400 (entry Try.prog 39 [.agg [.int .i64 mr,.int .i64 mp,.int .i64 mt,.int .i64 mi,.bool frozen,.int .i64 mu,.dat wt,.dat hd]]) =
 Tree.br (decide (mr < 0)) (.ret (.int .i64 3))
 (.br (decide (mr > 1073741824)) (.ret (.int .i64 3))
 (.br (decide (mu < 0)) (.ret (.int .i64 3))
 (.br (decide (mu > 1073741824)) (.ret (.int .i64 3))
 (.br (decide (mt < 0)) (.ret (.int .i64 3))
 (.br (decide (mt > mr)) (.ret (.int .i64 3))
 (.br (decide (mp < 0)) (.ret (.int .i64 3))
 (.br (decide (mp > mi)) (.ret (.int .i64 3))
 (.br (decide (mi > 4096)) (.ret (.int .i64 3))
 (.br (!frozen)
 (.br (decide ((↑(D.len hd) : Int) > 0)) (.ret (.int .i64 3))
 (.leaf
 (Conf.mk
 (SFrm.mk 39 none none
 [Item.inLoop (cA 39 [1,1,1,0,1,0,0]),Item.inBlock 0,
 Item.code (cA 39 [1,1,1,1])]
 (mkJ 0 [(1,.ptr 0 0),(3,.int .i64 0)] 0 147))
 []
 [(0,
 OBlk.cells 28
 [.int .i64 mr,.int .i64 mp,.int .i64 mt,
 .int .i64 mi,.bool frozen,.int .i64 mu,.dat wt,
 .dat hd])])))
 (.leaf
 (Conf.mk
 (SFrm.mk 39 none none
 [Item.inLoop (cA 39 [1,1,1,0,1,0,0]),Item.inBlock 0,
 Item.code (cA 39 [1,1,1,1])]
 (mkJ 0 [(1,.ptr 0 0),(3,.int .i64 0)] 0 147))
 []
 [(0,
 OBlk.cells 28
 [.int .i64 mr,.int .i64 mp,.int .i64 mt,
 .int .i64 mi,.bool frozen,.int .i64 mu,.dat wt,
 .dat hd])]))))))))))) := by kernel_rfl
theorem cm1a_go : exec Try.prog ctH 400 (unroll (cm1aL mr mp mt mi mu frozen wt hd j)) =
 Tree.br (decide (j < (↑(D.len wt) : Int)))
 (.need (0 ≤ j ∧ j < (↑(D.len wt) : Int) ∧ D.sz wt = 1)
 (.need (D.HasCell wt (Int.toNat j) 0 (FT.int .i64))
 (.br (decide (D.getInt wt (Int.toNat j) 0 < 0)) (.ret (.int .i64 3))
 (.br (decide (D.getInt wt (Int.toNat j) 0 ≥ mi)) (.ret (.int .i64 3))
 (.br (decide (j > 0))
 (.need
 (0 ≤ IntKind.wrap .i64 (j - 1) ∧
 IntKind.wrap .i64 (j - 1) < (↑(D.len wt) : Int) ∧ D.sz wt = 1)
 (.need (D.HasCell wt (Int.toNat (IntKind.wrap .i64 (j - 1))) 0 (FT.int .i64))
 (.br
 (decide (D.getInt wt (Int.toNat j) 0 ≤ D.getInt wt (Int.toNat (IntKind.wrap .i64 (j - 1))) 0))
 (.ret (.int .i64 3))
 (.leaf
 (Conf.mk
 (SFrm.mk 38 none none
 [Item.inLoop (cA 38 [1,1,0,1,0,0]),Item.inBlock 1,
 Item.code (cA 38 [1,1,1])]
 (mkJ 0
 [(1,.ptr 0 0),(46,.dat wt),(47,.int .i64 (↑(D.len wt) : Int)),
 (48,.int .i64 (IntKind.wrap .i64 (j + 1)))]
 0 107))
 []
 [(0,
 OBlk.cells 28
 [.int .i64 mr,.int .i64 mp,.int .i64 mt,.int .i64 mi,
 .bool frozen,.int .i64 mu,.dat wt,.dat hd])])))))
 (.leaf
 (Conf.mk
 (SFrm.mk 38 none none
 [Item.inLoop (cA 38 [1,1,0,1,0,0]),Item.inBlock 1,
 Item.code (cA 38 [1,1,1])]
 (mkJ 0
 [(1,.ptr 0 0),(46,.dat wt),(47,.int .i64 (↑(D.len wt) : Int)),
 (48,.int .i64 (IntKind.wrap .i64 (j + 1)))]
 0 107))
 []
 [(0,
 OBlk.cells 28
 [.int .i64 mr,.int .i64 mp,.int .i64 mt,.int .i64 mi,
 .bool frozen,.int .i64 mu,.dat wt,.dat hd])])))))))
 (.leaf
 (Conf.mk
 (SFrm.mk 38 none none
 [Item.inLoop (cA 38 [1,1,1,0,1,0,0]),Item.inBlock 3,Item.code (cA 38 [1,1,1,1])]
 (mkJ 0
 [(1,.ptr 0 0),(77,.dat hd),(78,.int .i64 (↑(D.len hd) : Int)),(79,.int .i64 0)] 0
 107))
 []
 [(0,
 OBlk.cells 28
 [.int .i64 mr,.int .i64 mp,.int .i64 mt,.int .i64 mi,.bool frozen,
 .int .i64 mu,.dat wt,.dat hd])])) := by kernel_rfl
theorem cm1b_go : exec Try.prog ctH 400 (unroll (cm1bL mr mp mt mi mu frozen wt hd j)) =
 Tree.br (decide (j < (↑(D.len hd) : Int)))
 (.need (0 ≤ j ∧ j < (↑(D.len hd) : Int) ∧ D.sz hd = 1)
 (.need (D.HasCell hd (Int.toNat j) 0 (FT.int .i64))
 (.br (decide (D.getInt hd (Int.toNat j) 0 < 0)) (.ret (.int .i64 3))
 (.br (decide (D.getInt hd (Int.toNat j) 0 ≥ mi)) (.ret (.int .i64 3))
 (.need (0 ≤ (↑0 : Int) ∧ (↑0 : Int) ≤ j ∧ j ≤ (↑(D.len hd) : Int) ∧ D.Fits hd 1)
 (.need (D.Is Int (D.sub hd 0 (Int.toNat j)) ∧ D.len (D.sub hd 0 (Int.toNat j)) ≤ 1048576)
 (.br (List.contains (D.to Int (D.sub hd 0 (Int.toNat j))) (D.getInt hd (Int.toNat j) 0))
 (.ret (.int .i64 3))
 (.need (D.Is Int wt ∧ D.len wt ≤ 1048576)
 (.br (List.contains (D.to Int wt) (D.getInt hd (Int.toNat j) 0)) (.ret (.int .i64 3))
 (.leaf
 (Conf.mk
 (SFrm.mk 38 none none
 [Item.inLoop (cA 38 [1,1,1,0,1,0,0]),Item.inBlock 3,
 Item.code (cA 38 [1,1,1,1])]
 (mkJ 0
 [(1,.ptr 0 0),(77,.dat hd),(78,.int .i64 (↑(D.len hd) : Int)),
 (79,.int .i64 (IntKind.wrap .i64 (j + 1)))]
 0 107))
 []
 [(0,
 OBlk.cells 28
 [.int .i64 mr,.int .i64 mp,.int .i64 mt,
 .int .i64 mi,.bool frozen,.int .i64 mu,.dat wt,
 .dat hd])])))))))))))
 (.ret (.int .i64 0)) := by kernel_rfl
theorem cm2a_go : 
 let z1 : Prop := (decide (D.getInt wt (Int.toNat j) 0 < 0) = false)
 let z2 := (D.getInt wt (Int.toNat j) 0 ≥ mi)
 let z3 : Prop := (decide (D.getInt wt (Int.toNat j) 0 < 0) = true)
 let z5 := (D.HasCell wt (Int.toNat j) 0 (FT.int .i64))
 let z6 : List SV := [.int .i64 mr,.int .i64 mp,.int .i64 mt,.int .i64 mi,.bool frozen,.int .i64 mu,.dat wt,.dat hd]
 let z4 : Tree := (.leaf (Conf.mk (SFrm.mk 39 none none [Item.inLoop (cA 39 [1,1,1,0,1,0,0]),Item.inBlock 0,Item.code (cA 39 [1,1,1,1])] (mkJ 0 [(1,.ptr 0 0),(3,.int .i64 (IntKind.wrap .i64 (j + 1)))] 0 147)) [] [(0,OBlk.cells 28 z6)]))
 exec Try.prog ctH 400 (unroll (cm2aL mr mp mt mi mu frozen wt hd j)) =
 Tree.br (decide (j < (↑(D.len wt) : Int))) (.all fun hs=>.br (decide (D.getInt wt (Int.toNat j) 0 < 0)) (.need (0 ≤ j ∧ j < (↑(D.len wt) : Int) ∧ D.sz wt = 1) (.need z5 (.need z3 (.need z3 (.need z3
 (.need z3 (.need z3 (.need z3 (.need z3 (.need z3 (.need z3 (.ret (.int .i64 3))))))))))))) (.br (decide z2) (.need (0 ≤ j ∧ j < (↑(D.len wt) : Int) ∧ D.sz wt = 1) (.need z5 (.need z1 (.need z1 (.need z1
 (.need z1 (.need (0 ≤ j ∧ j < (↑(D.len wt) : Int) ∧ D.sz wt = 1) (.need z1 (.need z5 (.need z1 (.need z1 (.need z1 (.need z1 (.need (decide z2 = true) (.need (decide z2 = true) (.need (decide z2 = true)
 (.need (decide z2 = true) (.need (decide z2 = true) (.ret (.int .i64 3)))))))))))))))))))) (.br (decide (j > 0)) (.need (0 ≤ j ∧ j < (↑(D.len wt) : Int) ∧ D.sz wt = 1) (.need z5 (.need z1 (.need z1 (.need z1
 (.need z1 (.need (0 ≤ j ∧ j < (↑(D.len wt) : Int) ∧ D.sz wt = 1) (.need z1 (.need z5 (.need z1 (.need z1 (.need z1 (.need z1 (.need (decide z2 = false) (.need (decide z2 = false) (.need (decide z2 = false)
 (.need (decide (j > 0) = true) (.need (decide (j > 0) = true) (.need (decide (j > 0) = true) (.need (decide (j > 0) = true) (.need (0 ≤ j ∧ j < (↑(D.len wt) : Int) ∧ D.sz wt = 1) (.need (decide (j > 0) = true)
 (.need z5 (.need (decide (j > 0) = true) (.need (decide (j > 0) = true) (.need (decide (j > 0) = true) (.need (decide (j > 0) = true) (.need (decide (j > 0) = true) (.need (0 ≤ IntKind.wrap .i64 (j - 1) ∧ IntKind.wrap .i64
 (j - 1) < (↑(D.len wt) : Int) ∧ D.sz wt = 1) (.need (decide (j > 0) = true) (.need (D.HasCell wt (Int.toNat (IntKind.wrap .i64 (j - 1))) 0 (FT.int .i64)) (.need (decide (j > 0) = true) (.need (decide z2 = false)
 (.need (decide (j > 0) = true) (.need (decide z2 = false) (.br (decide (D.getInt wt (Int.toNat j) 0 ≤ D.getInt wt (Int.toNat (IntKind.wrap .i64 (j - 1))) 0)) (.ret (.int .i64 3)) z4))))))))))))))))))))))))))))))))))))
 (.need (0 ≤ j ∧ j < (↑(D.len wt) : Int) ∧ D.sz wt = 1) (.need z5 (.need z1 (.need z1 (.need z1 (.need z1 (.need (0 ≤ j ∧ j < (↑(D.len wt) : Int) ∧ D.sz wt = 1) (.need z1 (.need z5 (.need z1 (.need z1 (.need z1
 (.need z1 (.need (decide z2 = false) (.need (decide z2 = false) (.need (decide z2 = false) (.need (decide (j > 0) = false) (.need (decide (j > 0) = false) (.need (decide (j > 0) = false) (.need (decide
 (j > 0) = false) (.need (decide (j > 0) = false) (.need (decide (j > 0) = false) (.need (decide (j > 0) = false) (.need (decide (j > 0) = false) (.need (decide (j > 0) = false) (.need (decide (j > 0) = false)
 (.need (decide (j > 0) = false) (.need (decide (j > 0) = false) (.need (decide z2 = false) (.need (decide (j > 0) = false) (.need (decide z2 = false) z4)))))))))))))))))))))))))))))))))) (.leaf (Conf.mk
 (SFrm.mk 39 none none [Item.inLoop (cA 39 [1,1,1,1,0,1,0,0]),Item.inBlock 2,Item.code (cA 39 [1,1,1,1,1])] (mkJ 0 [(1,.ptr 0 0),(4,.int .i64 0)] 0 147)) [] [(0,OBlk.cells 28 z6)])) := by
 intros; kernel_rfl
theorem cm2b_go : 
 let z1 : Prop := (decide (D.getInt hd (Int.toNat j) 0 < 0) = false)
 let z2 := (D.getInt hd (Int.toNat j) 0 ≥ mi)
 let z4 := (D.getInt hd (Int.toNat j) 0)
 let z5 := (D.HasCell hd (Int.toNat j) 0 (FT.int .i64))
 let z6 : Prop := (decide (D.getInt hd (Int.toNat j) 0 < 0) = true)
 let z7 := (D.sub hd 0 (Int.toNat j))
 let z3 := (D.to Int z7)
 exec Try.prog ctH 400 (unroll (cm2bL mr mp mt mi mu frozen wt hd j)) =
 Tree.br (decide (j < (↑(D.len hd) : Int))) (.all fun hs=>.br (decide (D.getInt hd (Int.toNat j) 0 < 0)) (.need (0 ≤ j ∧ j < (↑(D.len hd) : Int) ∧ D.sz hd = 1) (.need z5 (.need z6 (.need z6 (.need z6
 (.need z6 (.need z6 (.need z6 (.need z6 (.need z6 (.need z6 (.ret (.int .i64 3))))))))))))) (.br (decide z2) (.need (0 ≤ j ∧ j < (↑(D.len hd) : Int) ∧ D.sz hd = 1) (.need z5 (.need z1 (.need z1 (.need z1
 (.need z1 (.need (0 ≤ j ∧ j < (↑(D.len hd) : Int) ∧ D.sz hd = 1) (.need z1 (.need z5 (.need z1 (.need z1 (.need z1 (.need z1 (.need (decide z2 = true) (.need (decide z2 = true) (.need (decide z2 = true)
 (.need (decide z2 = true) (.need (decide z2 = true) (.need (decide z2 = true) (.need (decide z2 = true) (.need (decide z2 = true) (.need (decide z2 = true) (.need (decide z2 = true) (.need (decide z2 = true)
 (.ret (.int .i64 3)))))))))))))))))))))))))) (.br (List.contains z3 z4) (.need (0 ≤ j ∧ j < (↑(D.len hd) : Int) ∧ D.sz hd = 1) (.need z5 (.need z1 (.need z1 (.need z1 (.need z1 (.need (0 ≤ j ∧ j < (↑(D.len hd) : Int) ∧ D.sz hd = 1)
 (.need z1 (.need z5 (.need z1 (.need z1 (.need z1 (.need z1 (.need (decide z2 = false) (.need (decide z2 = false) (.need (decide z2 = false) (.need (decide z2 = false) (.need (0 ≤ (↑0 : Int) ∧ (↑0 : Int) ≤ j ∧ j ≤
 (↑(D.len hd) : Int) ∧ D.Fits hd 1) (.need (decide z2 = false) (.need (decide z2 = false) (.need (decide z2 = false) (.need (decide z2 = false) (.need (0 ≤ j ∧ j < (↑(D.len hd) : Int) ∧ D.sz hd = 1) (.need
 (decide z2 = false) (.need z5 (.need (decide z2 = false) (.need (D.Is Int z7 ∧ D.len z7 ≤ 1048576) (.need (decide z2 = false) (.need (List.contains z3 z4 = true) (.need (List.contains z3 z4 = true) (.need
 (List.contains z3 z4 = true) (.need (List.contains z3 z4 = true) (.need (List.contains z3 z4 = true) (.need (List.contains z3 z4 = true) (.need (List.contains z3 z4 = true) (.need (List.contains z3 z4 = true)
 (.need (List.contains z3 z4 = true) (.ret (.int .i64 3))))))))))))))))))))))))))))))))))))))) (.need (0 ≤ j ∧ j < (↑(D.len hd) : Int) ∧ D.sz hd = 1) (.need z5 (.need z1 (.need z1 (.need z1 (.need z1 (.need
 (0 ≤ j ∧ j < (↑(D.len hd) : Int) ∧ D.sz hd = 1) (.need z1 (.need z5 (.need z1 (.need z1 (.need z1 (.need z1 (.need (decide z2 = false) (.need (decide z2 = false) (.need (decide z2 = false) (.need (decide z2 = false)
 (.need (0 ≤ (↑0 : Int) ∧ (↑0 : Int) ≤ j ∧ j ≤ (↑(D.len hd) : Int) ∧ D.Fits hd 1) (.need (decide z2 = false) (.need (decide z2 = false) (.need (decide z2 = false) (.need (decide z2 = false) (.need (0 ≤ j ∧ j <
 (↑(D.len hd) : Int) ∧ D.sz hd = 1) (.need (decide z2 = false) (.need z5 (.need (decide z2 = false) (.need (D.Is Int z7 ∧ D.len z7 ≤ 1048576) (.need (decide z2 = false) (.need (List.contains z3 z4 = false)
 (.need (List.contains z3 z4 = false) (.need (List.contains z3 z4 = false) (.need (List.contains z3 z4 = false) (.need (List.contains z3 z4 = false) (.need (List.contains z3 z4 = false) (.need (0 ≤ j ∧ j <
 (↑(D.len hd) : Int) ∧ D.sz hd = 1) (.need (List.contains z3 z4 = false) (.need z5 (.need (List.contains z3 z4 = false) (.need (D.Is Int wt ∧ D.len wt ≤ 1048576) (.need (List.contains z3 z4 = false) (.br
 (List.contains (D.to Int wt) z4) (.ret (.int .i64 3)) (.leaf (Conf.mk (SFrm.mk 39 none none [Item.inLoop (cA 39 [1,1,1,1,0,1,0,0]),Item.inBlock 2,Item.code (cA 39 [1,1,1,1,1])] (mkJ 0 [(1,.ptr 0 0),
 (4,.int .i64 (IntKind.wrap .i64 (j + 1)))] 0 147)) [] [(0,OBlk.cells 28 [.int .i64 mr,.int .i64 mp,.int .i64 mt,.int .i64 mi,.bool frozen,.int .i64 mu,.dat wt,.dat hd])]))))))))))))))))))))))))))))))))))))))))))))))
 (.ret (.int .i64 0)) := by
 intros; kernel_rfl
end
end Sv.B21
end
noncomputable section
open Go Go.Proofs Sx
namespace Sx

theorem cm_eq {m : Mb} (h : headMb m = true) : checkMb m = if (List.range m.waiting.length).any (badW m.issued m.waiting) = true then 3 else if (List.range m.held.length).any (badH m.issued m.waiting m.held) = true then 3 else 0 := by
 unfold checkMb
 rw [if_neg (by rw [h]; simp)]

theorem any_range {p : Nat → Bool} {n j : Nat} (hj : j < n) (h : p j = true) : (List.range n).any p = true := List.any_eq_true.2 ⟨j,List.mem_range.2 hj,h⟩
theorem any_snoc {p : Nat → Bool} {j : Nat} (h1 : (List.range j).any p = false) (h2 : p j = false) : (List.range (j + 1)).any p = false := by
 rw [List.range_succ,List.any_append,h1]; simp [h2]

theorem wrap_pred {j : Nat} (h : 0 < j) (hj : j ≤ 1048576) : IntKind.i64.wrap ((j : Int) - 1) = ((j - 1 : Nat) : Int) := by rw [wrap64 (by omega) (by omega)]; omega

section
variable {P : Program} {w : World} {H : HV}
theorem ret_mb3 {r p t i u : Int} {F W Hd X Y : SV} {f : Bool} {ws hs av : List Int} {ms : List Msg} {res : Mb × List Int × List Msg} (hf : ∀ E,F.den E = (SV.bool f).den E) (hw : Stands Int W ws) (hh : Stands Int Hd hs) (hx : Stands Int X av) (hy : Stands Msg Y ms)
  (hr : res = (⟨r,p,t,i,f,u,ws,hs⟩,av,ms)) :
  (Tree.ret (.tup [.agg [.int .i64 r,.int .i64 p,.int .i64 t,.int .i64 i,F,.int .i64 u,W,Hd],X,Y])).holds P ⟨w,H⟩ (RetD w H fun ds=>.tup [mbSV (ds 0) (ds 1) res.1,.dat ((ds 2).like res.2.1),.dat ((ds 3).like res.2.2)]) := by
 subst hr
 obtain ⟨d,h1,h2,h3,h4⟩ := hw
 obtain ⟨d',h1',h2',h3',h4'⟩ := hh
 obtain ⟨d'',h1'',h2'',h3'',h4''⟩ := hx
 obtain ⟨e,k1,k2,k3,k4⟩ := hy
 refine ret_D (fun i=>match i with | 0=>d | 1=>d' | 2=>d'' | _=>e) (fun E E'=>?_) (fun H' ho=>?_)
 ·have : F.den E = (SV.bool f).den E' := by rw [hf]; rfl
  simp only [SV.den,SV.denL,mbSV,D.like_self h2 h3,D.like_self h2' h3',D.like_self h2'' h3'',D.like_self k2 k3,h1,h1',h1'',k1,this]
 ·simp only [SV.Ok,SV.OkL,mbSV,D.like_self h2 h3,D.like_self h2' h3',D.like_self h2'' h3'',D.like_self k2 k3] at ho ⊢
  exact ⟨⟨trivial,trivial,trivial,trivial,trivial,trivial,⟨h4 _ ho.1.2.2.2.2.2.2.1,h2.slc⟩,⟨h4' _ ho.1.2.2.2.2.2.2.2.1,h2'.slc⟩,trivial⟩,⟨h4'' _ ho.2.1,h2''.slc⟩,⟨k4 _ ho.2.2.1,k2.slc⟩,trivial⟩

theorem ret_mb2 {r p t i u : Int} {F W Hd X : SV} {f : Bool} {ws hs av : List Int} {res : Mb × List Int} (hf : ∀ E,F.den E = (SV.bool f).den E) (hw : Stands Int W ws) (hh : Stands Int Hd hs) (hx : Stands Int X av)
  (hr : res = (⟨r,p,t,i,f,u,ws,hs⟩,av)) :
  (Tree.ret (.tup [.agg [.int .i64 r,.int .i64 p,.int .i64 t,.int .i64 i,F,.int .i64 u,W,Hd],X])).holds P ⟨w,H⟩ (RetD w H fun ds=>.tup [mbSV (ds 0) (ds 1) res.1,.dat ((ds 2).like res.2)]) := by
 subst hr
 obtain ⟨d,h1,h2,h3,h4⟩ := hw
 obtain ⟨d',h1',h2',h3',h4'⟩ := hh
 obtain ⟨d'',h1'',h2'',h3'',h4''⟩ := hx
 refine ret_D (fun i=>match i with | 0=>d | 1=>d' | _=>d'') (fun E E'=>?_) (fun H' ho=>?_)
 ·have : F.den E = (SV.bool f).den E' := by rw [hf]; rfl
  simp only [SV.den,SV.denL,mbSV,D.like_self h2 h3,D.like_self h2' h3',D.like_self h2'' h3'',h1,h1',h1'',this]
 ·simp only [SV.Ok,SV.OkL,mbSV,D.like_self h2 h3,D.like_self h2' h3',D.like_self h2'' h3''] at ho ⊢
  exact ⟨⟨trivial,trivial,trivial,trivial,trivial,trivial,⟨h4 _ ho.1.2.2.2.2.2.2.1,h2.slc⟩,⟨h4' _ ho.1.2.2.2.2.2.2.2.1,h2'.slc⟩,trivial⟩,⟨h4'' _ ho.2.1,h2''.slc⟩,trivial⟩

theorem ret_mbI {r p t i u k : Int} {F W Hd : SV} {f : Bool} {ws hs : List Int} {res : Mb × Int} (hf : ∀ E,F.den E = (SV.bool f).den E) (hw : Stands Int W ws) (hh : Stands Int Hd hs)
  (hr : res = (⟨r,p,t,i,f,u,ws,hs⟩,k)) :
  (Tree.ret (.tup [.agg [.int .i64 r,.int .i64 p,.int .i64 t,.int .i64 i,F,.int .i64 u,W,Hd],.int .i64 k])).holds P ⟨w,H⟩ (RetD w H fun ds=>.tup [mbSV (ds 0) (ds 1) res.1,.int .i64 res.2]) := by
 subst hr
 obtain ⟨d,h1,h2,h3,h4⟩ := hw
 obtain ⟨d',h1',h2',h3',h4'⟩ := hh
 refine ret_D (fun i=>match i with | 0=>d | _=>d') (fun E E'=>?_) (fun H' ho=>?_)
 ·have : F.den E = (SV.bool f).den E' := by rw [hf]; rfl
  simp only [SV.den,SV.denL,mbSV,D.like_self h2 h3,D.like_self h2' h3',h1,h1',this]
 ·simp only [SV.Ok,SV.OkL,mbSV,D.like_self h2 h3,D.like_self h2' h3'] at ho ⊢
  exact ⟨⟨trivial,trivial,trivial,trivial,trivial,trivial,⟨h4 _ ho.1.2.2.2.2.2.2.1,h2.slc⟩,⟨h4' _ ho.1.2.2.2.2.2.2.2.1,h2'.slc⟩,trivial⟩,trivial,trivial⟩
end
end Sx

namespace Sv.B21

theorem lawIx : Law Try.prog 71 ((rdD.two rdInt).sp spIdx21) := by
 refine law_in _ (by kernel_rfl) fun H w ⟨d,n⟩ hok hp=>?_
 obtain ⟨hd,hlen⟩ := hp _ (List.mem_singleton.2 rfl)
 simp only at hd hlen
 rw [D.Is.length (α := Int)] at hlen
 apply exec_sound (noCtr _) 200
 rw [show (rdD.two rdInt).canon (d,n) = [.dat d,.int .i64 n] from rfl,ix_in]
 refine runs_loop (fun j : Nat=>ixL d n j) (fun j=>j ≤ (d.to Int).length ∧ ((d.to Int).take j).findIdx? (fun x=>n == x) = none) (fun j=>(d.to Int).length - j) (fun _=>rfl) ?_ 0 ⟨Nat.zero_le _,by simp⟩
 intro j ⟨hj,hpre⟩ ih
 apply exec_sound (noCtr _) 200
 rw [ix_go]
 have hl := D.Is.length (α := Int) d
 refine ⟨fun hc=>?_,fun hc=>?_⟩
 ·simp [hl] at hc
  obtain ⟨c1,c2,c3⟩ := int_at hd hc
  rw [c3]
  refine ⟨c1,c2,fun hc2=>ret_int ?_,fun hc2=>?_⟩
  ·have : (d.to Int).findIdx? (fun x=>n == x) = some j := by
    rw [List.findIdx?_eq_some_iff_getElem]
    refine ⟨hc,hc2,fun i hi=>?_⟩
    rw [List.findIdx?_eq_none_iff] at hpre
    have := hpre (d.to Int)[i] (List.mem_take_iff_getElem.2 ⟨i,by omega,rfl⟩)
    simpa using this
   simp [idxP,this]
  ·have := ih (j + 1) ⟨hc,by rw [List.take_succ_eq_append_getElem hc,List.findIdx?_append,hpre]; simp at hc2; simp [hc2]⟩ (by omega)
   rw [← wrap_succ hc hlen] at this
   exact this
 ·simp [hl] at hc
  have : j = (d.to Int).length := by omega
  subst this
  rw [List.take_length] at hpre
  exact ret_int (by simp only [idxP,hpre]; rfl)

theorem ctIx : Ctrs.Ok Try.prog [(71,ctrOf ((rdD.two rdInt).sp spIdx21))] := by
 intro x hx
 rw [List.mem_singleton.1 hx]
 exact ctrOf_ok lawIx

theorem lawCont : Law Try.prog 34 ((rdD.two rdInt).sp spHas21) := by
 refine law_in _ (by kernel_rfl) fun H w ⟨d,n⟩ hok hp=>?_
 apply exec_sound ctIx 200
 rw [show (rdD.two rdInt).canon (d,n) = [.dat d,.int .i64 n] from rfl,ct_in]
 refine ⟨hp _ (List.mem_singleton.2 rfl),ret_bool ?_⟩
 rw [idxP_any,List.contains_eq_any_beq]
 rfl

theorem lawHas : Law Try.prog 73 ((rdD.two rdInt).sp spHas21) := by
 refine law_in _ (by kernel_rfl) fun H w ⟨d,n⟩ hok hp=>?_
 obtain ⟨hd,hlen⟩ := hp _ (List.mem_singleton.2 rfl)
 simp only at hd hlen
 rw [D.Is.length (α := Int)] at hlen
 apply exec_sound (noCtr _) 200
 rw [show (rdD.two rdInt).canon (d,n) = [.dat d,.int .i64 n] from rfl,has_in]
 refine runs_loop (fun j : Nat=>hasL d n j) (fun j=>j ≤ (d.to Int).length ∧ ((d.to Int).take j).contains n = false) (fun j=>(d.to Int).length - j) (fun _=>rfl) ?_ 0 ⟨Nat.zero_le _,by simp⟩
 intro j ⟨hj,hpre⟩ ih
 apply exec_sound (noCtr _) 200
 rw [has_go]
 have hl := D.Is.length (α := Int) d
 refine ⟨fun hc=>?_,fun hc=>?_⟩
 ·simp [hl] at hc
  obtain ⟨c1,c2,c3⟩ := int_at hd hc
  rw [c3]
  refine ⟨c1,c2,fun hc2=>ret_lb ?_,fun hc2=>?_⟩
  ·simp at hc2
   symm
   rw [List.contains_iff_mem,← hc2]
   exact List.getElem_mem hc
  ·have := ih (j + 1) ⟨hc,by rw [take_has hc,hpre]; simpa using hc2⟩ (by omega)
   rw [← wrap_succ hc hlen] at this
   exact this
 ·simp [hl] at hc
  have : j = (d.to Int).length := by omega
  subst this
  rw [List.take_length] at hpre
  exact ret_lb hpre.symm

theorem lawEvery : Law Try.prog 64 (rdD.one.sp spEvery) := by
 refine law_in _ (by kernel_rfl) fun H w d hok hp=>?_
 obtain ⟨hd,hlen⟩ := hp _ (List.mem_singleton.2 rfl)
 rw [D.Is.length (α := Bool)] at hlen
 apply exec_sound (noCtr _) 200
 rw [show rdD.one.canon d = [.dat d] from rfl,every_in]
 refine runs_loop (fun j : Nat=>everyL d j) (fun j=>j ≤ (d.to Bool).length ∧ ((d.to Bool).take j).all id = true) (fun j=>(d.to Bool).length - j) (fun _=>rfl) ?_ 0 ⟨Nat.zero_le _,by simp⟩
 intro j ⟨hj,hpre⟩ ih
 apply exec_sound (noCtr _) 200
 rw [every_go]
 have hl := D.Is.length (α := Bool) d
 refine ⟨fun hc=>?_,fun hc=>?_⟩
 ·simp [hl] at hc
  obtain ⟨c1,c2,c3⟩ := bool_at hd hc
  rw [c3]
  refine ⟨c1,c2,fun hc2=>ret_lb ?_,fun hc2=>?_⟩
  ·simp at hc2
   symm
   rw [List.all_eq_false]
   exact ⟨_,List.getElem_mem hc,by simp [hc2]⟩
  ·have := ih (j + 1) ⟨hc,by rw [List.take_succ_eq_append_getElem hc,List.all_append,hpre]; simp at hc2; simp [hc2]⟩ (by omega)
   rw [← wrap_succ hc hlen] at this
   exact this
 ·simp [hl] at hc
  have : j = (d.to Bool).length := by omega
  subst this
  rw [List.take_length] at hpre
  exact ret_lb hpre.symm

theorem lawAns : Law Try.prog 58 ((rdMsg.three rdInt rdInt).sp spAns) := by
 refine law_in _ (by kernel_rfl) fun H w ⟨⟨mk,mf,mto,mn,mv,me,ml,mb⟩,k,v⟩ hok hp=>?_
 apply exec_sound (noCtr _) 200
 rw [show (rdMsg.three rdInt rdInt).canon (⟨mk,mf,mto,mn,mv,me,ml,mb⟩,k,v) = [.agg [.int .i64 mk,.int .i64 mf,.int .i64 mto,.int .i64 mn,.int .i64 mv,.int .i64 me,.dat ml,.dat mb],.int .i64 k,.int .i64 v] from rfl,ans_in]
 exact fun hs=>ret_msgs' (stands_rows rfl (msg_row' rfl)) rfl

theorem lawThaw : Law Try.prog 60 (rdMb.one.sp spThaw) := by
 refine law_in _ (by kernel_rfl) fun H w ⟨r,p,t,i,f,u,wt,hd⟩ hok hp=>?_
 obtain ⟨hw,hh,_⟩ := hp _ (List.mem_singleton.2 rfl)
 apply exec_sound (noCtr _) 200
 rw [show rdMb.one.canon ⟨r,p,t,i,f,u,wt,hd⟩ = [.agg [.int .i64 r,.int .i64 p,.int .i64 t,.int .i64 i,.bool f,.int .i64 u,.dat wt,.dat hd]] from rfl,thaw_in]
 exact ret_mb2 lb_den (stands_self hw) stands_nils (stands_self hh) rfl

theorem ctEnd : Ctrs.Ok Try.prog [(58,ctrOf ((rdMsg.three rdInt rdInt).sp spAns)),(60,ctrOf (rdMb.one.sp spThaw))] := by
 intro x hx
 simp only [List.mem_cons,List.not_mem_nil,or_false] at hx
 rcases hx with rfl | rfl
 ·exact ctrOf_ok lawAns
 ·exact ctrOf_ok lawThaw

theorem lawEnd : Law Try.prog 59 ((rdMb.three rdInt rdMsg).sp spEnd) := by
 refine law_in _ (by kernel_rfl) fun H w ⟨⟨r,p,t,i,f,u,wt,hd⟩,now,⟨mk,mf,mto,mn,mv,me,ml,mb⟩⟩ hok hp=>?_
 have hp := hp _ (List.mem_singleton.2 rfl)
 obtain ⟨hw,hh,lw,lh⟩ := hp
 simp only at hw hh lw lh
 apply exec_sound ctEnd 200
 rw [show (rdMb.three rdInt rdMsg).canon (⟨r,p,t,i,f,u,wt,hd⟩,now,⟨mk,mf,mto,mn,mv,me,ml,mb⟩) = [.agg [.int .i64 r,.int .i64 p,.int .i64 t,.int .i64 i,.bool f,.int .i64 u,.dat wt,.dat hd],.int .i64 now,.agg [.int .i64 mk,.int .i64 mf,.int .i64 mto,.int .i64 mn,.int .i64 mv,.int .i64 me,.dat ml,.dat mb]] from rfl,end_in]
 refine ⟨fun h1=>⟨fun h2 hs=>?_,fun h2 hs=>?_⟩,fun h1=>⟨fun h2 _=>⟨⟨hw,hh,lw,lh⟩,fun _ _=>?_⟩,fun h2=>⟨⟨hw,hh,lw,lh⟩,fun _ _=>?_⟩⟩⟩
 ·simp only [Bool.not_eq_true',decide_eq_true_eq] at h1 h2
  exact ret_mb3 (fun _=>rfl) (stands_self hw) (stands_self hh) stands_nils stands_like (by simp [endMb,MbD.mb,h1,h2])
 ·simp only [Bool.not_eq_true',decide_eq_false_iff_not] at h1 h2
  exact ret_mb3 (fun _=>rfl) (stands_self hw) (stands_self hh) stands_nils stands_like (by simp [endMb,MbD.mb,h1,h2])
 ·simp only [Bool.not_eq_false',decide_eq_true_eq] at h1 h2
  exact ret_mb3 (fun _=>rfl) stands_like stands_like stands_like stands_like (by simp [endMb,MbD.mb,h1,h2])
 ·simp only [Bool.not_eq_false',decide_eq_false_iff_not] at h1 h2
  exact ret_mb3 (fun _=>rfl) stands_like stands_like stands_like stands_like (by simp [endMb,MbD.mb,h1,h2])

theorem ctGive : Ctrs.Ok Try.prog [(51,ctrOf ((rdCo.two rdInt).sp spAll2))] := by
 intro x hx
 rw [List.mem_singleton.1 hx]
 exact ctrOf_ok lawAll2

theorem lawGive : Law Try.prog 65 (rdCo.one.sp spGive) := by
 refine law_in _ (by kernel_rfl) fun H w ⟨n,r,p,dl,d,s,v⟩ hok hp=>?_
 obtain ⟨hd,hs,hn⟩ := hp _ (List.mem_singleton.2 rfl)
 apply exec_sound ctGive 200
 rw [show rdCo.one.canon ⟨n,r,p,dl,d,s,v⟩ = [.agg [.int .i64 n,.int .i64 r,.int .i64 p,.int .i64 dl,.dat d,.dat s,.bool v]] from rfl,give_in]
 exact fun _=>⟨hn,ret_co2 (stands_self hd) (stands_self hs) lb_den stands_like rfl⟩

theorem lawSameMb : Law Try.prog 26 ((rdMb.two rdMb).sp spSameMb) := by
 refine law_in _ (by kernel_rfl) fun H w ⟨⟨r,p,t,i,f,u,wt,hd⟩,⟨r',p',t',i',f',u',wt',hd'⟩⟩ hok hp=>?_
 obtain ⟨⟨hw,hh,lw,lh⟩,⟨hw',hh',lw',lh'⟩⟩ := hp _ (List.mem_singleton.2 rfl)
 simp only at hw hh lw lh hw' hh' lw' lh'
 apply exec_sound ctBOk 300
 rw [show (rdMb.two rdMb).canon (⟨r,p,t,i,f,u,wt,hd⟩,⟨r',p',t',i',f',u',wt',hd'⟩) = [.agg [.int .i64 r,.int .i64 p,.int .i64 t,.int .i64 i,.bool f,.int .i64 u,.dat wt,.dat hd],.agg [.int .i64 r',.int .i64 p',.int .i64 t',.int .i64 i',.bool f',.int .i64 u',.dat wt',.dat hd']] from rfl,samemb_in]
 simp only [MbD.mb,Mb.mk.injEq]
 refine ⟨fun h1=>⟨fun h2=>⟨fun h3=>⟨fun h4=>⟨fun h5=>⟨fun h6=>⟨⟨hw,hw',by omega⟩,fun h7=>⟨⟨hh,hh',by omega⟩,ret_bool ?_⟩,fun h7=>ret_lb ?_⟩,fun h6=>ret_lb ?_⟩,fun h5=>ret_lb ?_⟩,fun h4=>ret_lb ?_⟩,fun h3=>ret_lb ?_⟩,fun h2=>ret_lb ?_⟩,fun h1=>ret_lb ?_⟩
 all_goals (simp only [decide_eq_true_eq,decide_eq_false_iff_not] at *; simp [*])

theorem ctHOk : Ctrs.Ok Try.prog ctH := by
 intro x hx
 simp only [ctH,List.mem_cons,List.not_mem_nil,or_false] at hx
 rcases hx with rfl | rfl
 ·exact ctrOf_ok lawCont
 ·exact ctrOf_ok lawHas

theorem cm1b_loop {H : HV} {mr mp mt mi mu : Int} {f : Bool} {wt hd : D} (hw : wt.Is Int) (hh : hd.Is Int) (lw : wt.len ≤ 1048575) (lh : hd.len ≤ 1048575) (w : World) (k : Int)
  (hk : k = if (List.range (hd.to Int).length).any (badH mi (wt.to Int) (hd.to Int)) = true then 3 else 0) :
  Runs Try.prog ⟨w,H⟩ (cm1bL mr mp mt mi mu f wt hd 0) (RetS w H (.int .i64 k)) := by
 have hl := D.Is.length (α := Int) hd
 refine runs_loop (fun j : Nat=>cm1bL mr mp mt mi mu f wt hd j) (fun j=>j ≤ (hd.to Int).length ∧ (List.range j).any (badH mi (wt.to Int) (hd.to Int)) = false) (fun j=>(hd.to Int).length - j) (fun _=>rfl) ?_ 0 ⟨Nat.zero_le _,by simp⟩
 intro j ⟨hj,hpre⟩ ih
 apply exec_sound ctHOk 400
 rw [cm1b_go]
 refine ⟨fun hc=>?_,fun hc=>?_⟩
 ·simp [hl] at hc
  obtain ⟨c1,c2,c3⟩ := int_at hh hc
  have hg := getD_lt hc
  rw [c3]
  obtain ⟨s1,s2⟩ := hh.sub 0 (Int.toNat (j : Int))
  have s2 : (hd.sub 0 (Int.toNat (j : Int))).to Int = (hd.to Int).take j := by rw [s2]; simp
  have s3 : (hd.sub 0 (Int.toNat (j : Int))).len ≤ 1048576 := by rw [D.Is.length (α := Int),s2,List.length_take]; omega
  rw [s2]
  have bad : badH mi (wt.to Int) (hd.to Int) j = true → 3 = k := fun hb=>by rw [hk,any_range hc hb]; rfl
  refine ⟨c1,c2,fun h1=>ret_int (bad ?_),fun h1=>⟨fun h2=>ret_int (bad ?_),fun h2=>⟨⟨by omega,by omega,by omega,hh.fits⟩,⟨s1,s3⟩,fun h3=>ret_int (bad ?_),fun h3=>⟨⟨hw,by omega⟩,fun h4=>ret_int (bad ?_),fun h4=>?_⟩⟩⟩⟩
  ·simp only [badH,hg,h1]; simp
  ·simp only [badH,hg,h2]; simp
  ·simp only [badH,hg,h3]; simp
  ·simp only [badH,hg,h4]; simp
  ·have := ih (j + 1) ⟨hc,any_snoc hpre (by simp only [badH,hg,h1,h2,h3,h4]; rfl)⟩ (by omega)
   rw [← wrap_succ hc (by omega)] at this
   exact this
 ·simp [hl] at hc
  have : j = (hd.to Int).length := by omega
  subst this
  exact ret_int (by rw [hk,hpre]; rfl)

theorem cm1a_loop {H : HV} {mr mp mt mi mu : Int} {f : Bool} {wt hd : D} (hw : wt.Is Int) (hh : hd.Is Int) (lw : wt.len ≤ 1048575) (lh : hd.len ≤ 1048575) (w : World) (hhead : headMb ⟨mr,mp,mt,mi,f,mu,wt.to Int,hd.to Int⟩ = true) :
  Runs Try.prog ⟨w,H⟩ (cm1aL mr mp mt mi mu f wt hd 0) (RetS w H (.int .i64 (checkMb ⟨mr,mp,mt,mi,f,mu,wt.to Int,hd.to Int⟩))) := by
 have hk := cm_eq hhead
 simp only at hk
 have hl := D.Is.length (α := Int) wt
 refine runs_loop (fun j : Nat=>cm1aL mr mp mt mi mu f wt hd j) (fun j=>j ≤ (wt.to Int).length ∧ (List.range j).any (badW mi (wt.to Int)) = false) (fun j=>(wt.to Int).length - j) (fun _=>rfl) ?_ 0 ⟨Nat.zero_le _,by simp⟩
 intro j ⟨hj,hpre⟩ ih
 apply exec_sound ctHOk 400
 rw [cm1a_go]
 refine ⟨fun hc=>?_,fun hc=>?_⟩
 ·simp [hl] at hc
  obtain ⟨c1,c2,c3⟩ := int_at hw hc
  have hg := getD_lt hc
  rw [c3]
  have bad : badW mi (wt.to Int) j = true → 3 = checkMb ⟨mr,mp,mt,mi,f,mu,wt.to Int,hd.to Int⟩ := fun hb=>by rw [hk,any_range hc hb]; rfl
  have go : badW mi (wt.to Int) j = false → Runs Try.prog ⟨w,H⟩ (cm1aL mr mp mt mi mu f wt hd (IntKind.i64.wrap ((j : Int) + 1))) (RetS w H (.int .i64 (checkMb ⟨mr,mp,mt,mi,f,mu,wt.to Int,hd.to Int⟩))) := fun hb=>by
   rw [wrap_succ hc (by omega)]
   exact ih (j + 1) ⟨hc,any_snoc hpre hb⟩ (by omega)
  refine ⟨c1,c2,fun h1=>ret_int (bad ?_),fun h1=>⟨fun h2=>ret_int (bad ?_),fun h2=>⟨fun h3=>?_,fun h3=>go ?_⟩⟩⟩
  ·simp only [badW,hg,h1]; simp
  ·simp only [badW,hg,h2]; simp
  ·have hj0 : 0 < j := by simpa using h3
   rw [wrap_pred hj0 (by omega)]
   have hc' : j - 1 < (wt.to Int).length := by omega
   obtain ⟨d1,d2,d3⟩ := int_at hw hc'
   have hg' := getD_lt hc'
   rw [d3]
   refine ⟨d1,d2,fun h4=>ret_int (bad ?_),fun h4=>go ?_⟩
   ·simp only [badW,hg,hg',h4]; simp [hj0]
   ·simp only [badW,hg,hg',h1,h2,h4]; simp
  ·have hj0 : ¬ 0 < j := by simpa using h3
   simp only [badW,hg,h1,h2]; simp [hj0]
 ·simp [hl] at hc
  have : j = (wt.to Int).length := by omega
  subst this
  exact cm1b_loop hw hh lw lh w _ (by rw [hk,hpre]; rfl)

theorem cm2b_loop {H : HV} {mr mp mt mi mu : Int} {f : Bool} {wt hd : D} (hw : wt.Is Int) (hh : hd.Is Int) (lw : wt.len ≤ 1048575) (lh : hd.len ≤ 1048575) (w : World) (k : Int)
  (hk : k = if (List.range (hd.to Int).length).any (badH mi (wt.to Int) (hd.to Int)) = true then 3 else 0) :
  Runs Try.prog ⟨w,H⟩ (cm2bL mr mp mt mi mu f wt hd 0) (RetS w H (.int .i64 k)) := by
 have hl := D.Is.length (α := Int) hd
 refine runs_loop (fun j : Nat=>cm2bL mr mp mt mi mu f wt hd j) (fun j=>j ≤ (hd.to Int).length ∧ (List.range j).any (badH mi (wt.to Int) (hd.to Int)) = false) (fun j=>(hd.to Int).length - j) (fun _=>rfl) ?_ 0 ⟨Nat.zero_le _,by simp⟩
 intro j ⟨hj,hpre⟩ ih
 apply exec_sound ctHOk 400
 rw [cm2b_go]
 refine ⟨fun hc=>?_,fun hc=>?_⟩
 ·simp [hl] at hc
  obtain ⟨c1,c2,c3⟩ := int_at hh hc
  have hg := getD_lt hc
  rw [c3]
  obtain ⟨s1,s2⟩ := hh.sub 0 (Int.toNat (j : Int))
  have s2 : (hd.sub 0 (Int.toNat (j : Int))).to Int = (hd.to Int).take j := by rw [s2]; simp
  have s3 : (hd.sub 0 (Int.toNat (j : Int))).len ≤ 1048576 := by rw [D.Is.length (α := Int),s2,List.length_take]; omega
  rw [s2]
  have s4 : 0 ≤ (0 : Int) ∧ (0 : Int) ≤ (j : Int) ∧ (j : Int) ≤ (hd.len : Int) ∧ hd.Fits 1 := ⟨by omega,by omega,by omega,hh.fits⟩
  have s5 : (hd.sub 0 (Int.toNat (j : Int))).Is Int ∧ (hd.sub 0 (Int.toNat (j : Int))).len ≤ 1048576 := ⟨s1,s3⟩
  have s6 : wt.Is Int ∧ wt.len ≤ 1048576 := ⟨hw,by omega⟩
  have bad : badH mi (wt.to Int) (hd.to Int) j = true → 3 = k := fun hb=>by rw [hk,any_range hc hb]; rfl
  intro hs
  refine ⟨fun h1=>?_,fun h1=>⟨fun h2=>?_,fun h2=>⟨fun h3=>?_,fun h3=>?_⟩⟩⟩
  ·repeat' first | refine ⟨by assumption,?_⟩ | fail
   exact ret_int (bad (by simp only [badH,hg,h1]; simp))
  ·repeat' first | refine ⟨by assumption,?_⟩ | fail
   exact ret_int (bad (by simp only [badH,hg,h2]; simp))
  ·repeat' first | refine ⟨by assumption,?_⟩ | fail
   exact ret_int (bad (by simp only [badH,hg,h3]; simp))
  ·repeat' first | refine ⟨by assumption,?_⟩ | fail
   refine ⟨fun h4=>ret_int (bad (by simp only [badH,hg,h4]; simp)),fun h4=>?_⟩
   have := ih (j + 1) ⟨hc,any_snoc hpre (by simp only [badH,hg,h1,h2,h3,h4]; rfl)⟩ (by omega)
   rw [← wrap_succ hc (by omega)] at this
   exact this
 ·simp [hl] at hc
  have : j = (hd.to Int).length := by omega
  subst this
  exact ret_int (by rw [hk,hpre]; rfl)

theorem cm2a_loop {H : HV} {mr mp mt mi mu : Int} {f : Bool} {wt hd : D} (hw : wt.Is Int) (hh : hd.Is Int) (lw : wt.len ≤ 1048575) (lh : hd.len ≤ 1048575) (w : World) (hhead : headMb ⟨mr,mp,mt,mi,f,mu,wt.to Int,hd.to Int⟩ = true) :
  Runs Try.prog ⟨w,H⟩ (cm2aL mr mp mt mi mu f wt hd 0) (RetS w H (.int .i64 (checkMb ⟨mr,mp,mt,mi,f,mu,wt.to Int,hd.to Int⟩))) := by
 have hk := cm_eq hhead
 simp only at hk
 have hl := D.Is.length (α := Int) wt
 refine runs_loop (fun j : Nat=>cm2aL mr mp mt mi mu f wt hd j) (fun j=>j ≤ (wt.to Int).length ∧ (List.range j).any (badW mi (wt.to Int)) = false) (fun j=>(wt.to Int).length - j) (fun _=>rfl) ?_ 0 ⟨Nat.zero_le _,by simp⟩
 intro j ⟨hj,hpre⟩ ih
 apply exec_sound ctHOk 400
 rw [cm2a_go]
 refine ⟨fun hc=>?_,fun hc=>?_⟩
 ·simp [hl] at hc
  obtain ⟨c1,c2,c3⟩ := int_at hw hc
  have hg := getD_lt hc
  rw [c3]
  have bad : badW mi (wt.to Int) j = true → 3 = checkMb ⟨mr,mp,mt,mi,f,mu,wt.to Int,hd.to Int⟩ := fun hb=>by rw [hk,any_range hc hb]; rfl
  have go : badW mi (wt.to Int) j = false → Runs Try.prog ⟨w,H⟩ (cm2aL mr mp mt mi mu f wt hd (IntKind.i64.wrap ((j : Int) + 1))) (RetS w H (.int .i64 (checkMb ⟨mr,mp,mt,mi,f,mu,wt.to Int,hd.to Int⟩))) := fun hb=>by
   rw [wrap_succ hc (by omega)]
   exact ih (j + 1) ⟨hc,any_snoc hpre hb⟩ (by omega)
  intro hs
  refine ⟨fun h1=>?_,fun h1=>⟨fun h2=>?_,fun h2=>⟨fun h3=>?_,fun h3=>?_⟩⟩⟩
  ·repeat' first | refine ⟨by assumption,?_⟩ | fail
   exact ret_int (bad (by simp only [badW,hg,h1]; simp))
  ·repeat' first | refine ⟨by assumption,?_⟩ | fail
   exact ret_int (bad (by simp only [badW,hg,h2]; simp))
  ·have hj0 : 0 < j := by simpa using h3
   rw [wrap_pred hj0 (by omega)]
   have hc' : j - 1 < (wt.to Int).length := by omega
   obtain ⟨d1,d2,d3⟩ := int_at hw hc'
   have hg' := getD_lt hc'
   rw [d3]
   repeat' first | refine ⟨by assumption,?_⟩ | fail
   refine ⟨fun h4=>ret_int (bad ?_),fun h4=>go ?_⟩
   ·simp only [badW,hg,hg',h4]; simp [hj0]
   ·simp only [badW,hg,hg',h1,h2,h4]; simp
  ·have hj0 : ¬ 0 < j := by simpa using h3
   repeat' first | refine ⟨by assumption,?_⟩ | fail
   exact go (by simp only [badW,hg,h1,h2]; simp [hj0])
 ·simp [hl] at hc
  have : j = (wt.to Int).length := by omega
  subst this
  exact cm2b_loop hw hh lw lh w _ (by rw [hk,hpre]; rfl)

theorem lawCM1 : Law Try.prog 38 (rdMb.one.sp spCM) := by
 refine law_in _ (by kernel_rfl) fun H w ⟨r,p,t,i,f,u,wt,hd⟩ hok hp=>?_
 obtain ⟨hw,hh,lw,lh⟩ := hp _ (List.mem_singleton.2 rfl)
 simp only at hw hh lw lh
 clear hp hok
 have hl := D.Is.length (α := Int) hd
 apply exec_sound ctHOk 400
 rw [show rdMb.one.canon ⟨r,p,t,i,f,u,wt,hd⟩ = [.agg [.int .i64 r,.int .i64 p,.int .i64 t,.int .i64 i,.bool f,.int .i64 u,.dat wt,.dat hd]] from rfl,cm1_in]
 simp only [MbD.mb]
 have hb : headMb ⟨r,p,t,i,f,u,wt.to Int,hd.to Int⟩ = false → 3 = checkMb ⟨r,p,t,i,f,u,wt.to Int,hd.to Int⟩ := fun h=>by rw [checkMb,if_pos h]
 have hh0 : (hd.to Int = []) ↔ hd.len = 0 := by rw [hl]; exact List.length_eq_zero_iff.symm
 repeat' first
  | refine ⟨fun hc=>?_,fun hc=>?_⟩
  | refine ret_int (hb ?_)
  | refine cm1a_loop hw hh lw lh w ?_
  | fail
 all_goals (clear hb; cases f <;> simp only [headMb,okTime,Bool.and_eq_false_imp,decide_eq_true_eq,decide_eq_false_iff_not,bne_iff_ne,ne_eq,bne_eq_false_iff_eq,Bool.not_eq_true',Bool.not_eq_false',Decidable.not_not,ge_iff_le,gt_iff_lt,hh0,reduceCtorEq,true_and,false_and,or_false,Bool.not_true,Bool.not_false] at * <;> first | omega | (simp_all; done) | (simp_all; omega))

theorem lawCM2 : Law Try.prog 39 (rdMb.one.sp spCM) := by
 refine law_in _ (by kernel_rfl) fun H w ⟨r,p,t,i,f,u,wt,hd⟩ hok hp=>?_
 obtain ⟨hw,hh,lw,lh⟩ := hp _ (List.mem_singleton.2 rfl)
 simp only at hw hh lw lh
 clear hp hok
 have hl := D.Is.length (α := Int) hd
 apply exec_sound ctHOk 400
 rw [show rdMb.one.canon ⟨r,p,t,i,f,u,wt,hd⟩ = [.agg [.int .i64 r,.int .i64 p,.int .i64 t,.int .i64 i,.bool f,.int .i64 u,.dat wt,.dat hd]] from rfl,cm2_in]
 simp only [MbD.mb]
 have hb : headMb ⟨r,p,t,i,f,u,wt.to Int,hd.to Int⟩ = false → 3 = checkMb ⟨r,p,t,i,f,u,wt.to Int,hd.to Int⟩ := fun h=>by rw [checkMb,if_pos h]
 have hh0 : (hd.to Int = []) ↔ hd.len = 0 := by rw [hl]; exact List.length_eq_zero_iff.symm
 repeat' first
  | refine ⟨fun hc=>?_,fun hc=>?_⟩
  | refine ret_int (hb ?_)
  | refine cm2a_loop hw hh lw lh w ?_
  | fail
 all_goals (clear hb; cases f <;> simp only [headMb,okTime,Bool.and_eq_false_imp,decide_eq_true_eq,decide_eq_false_iff_not,bne_iff_ne,ne_eq,bne_eq_false_iff_eq,Bool.not_eq_true',Bool.not_eq_false',Decidable.not_not,ge_iff_le,gt_iff_lt,hh0,reduceCtorEq,true_and,false_and,or_false,Bool.not_true,Bool.not_false] at * <;> first | omega | (simp_all; done) | (simp_all; omega))
end Sv.B21
end
noncomputable section
open Go Go.Proofs Sx
namespace Sv.B21
section
variable (n j now patience : Int) (a b d s wt hd : D) (frozen : Bool) (mr mp mt mi mu : Int) (mk mf mto mn mv me : Int) (ml mb : D) (nodes round phase deadline : Int) (valid : Bool)
theorem obey1_in : 
 let z1 : Tree := (.ret (SV.tup [.agg [.int .i64 mr,.int .i64 mp,.int .i64 mt,.int .i64 mi,.bool frozen,.int .i64 mu,.dat wt,.dat hd],.nils,.nils]))
 let z2 : Prop := (decide (mn < mr) = false)
 let z3 : Prop := (decide (mn < mr) = true)
 let z4 : Prop := (decide (mn = mr) = false)
 let z5 : Prop := (decide (mn = mr) = true)
 exec Try.prog ctM 800 (entry Try.prog 24 [.agg [.int .i64 mr,.int .i64 mp,.int .i64 mt,.int .i64 mi,.bool frozen,.int .i64 mu,.dat wt,.dat hd],.int .i64 now,.int .i64 patience,.agg [.int .i64 mk,.int .i64 mf,.int .i64 mto,.int .i64 mn,.int .i64 mv,.int .i64 me,.dat ml,.dat mb]]) =
 Tree.need (MbD.Right (MbD.mk mr mp mt mi frozen mu wt hd)) (.br (checkMb (MbD.mb (MbD.mk mr mp mt mi frozen mu wt hd)) != 0) z1 (.br (decide (mn < 1)) z1 (.br (decide (mn ≥ 0)) (.br (!decide (mn ≤ 1073741824)) z1
 (.all fun hs=>.need (D.Is Int wt ∧ D.len wt ≤ 1048576) (.need (D.Is Int hd ∧ D.len hd ≤ 1048576) (.br (decide (mk = 1)) (.all fun hs_1=>.br (decide (mn > mr)) (.all fun hs_2=>.all fun hs_3=>.all fun hs_4=>.all fun hs_5=>.ret
 (SV.tup [.agg [.int .i64 mn,.int .i64 mi,.int .i64 mt,.int .i64 mi,.lb true,.int .i64 (if 1073741824 < IntKind.wrap .i64 ((if 1073741824 < if 0 > now then 0 else now then 1073741824 else if 0 > now then 0 else now) + if 1073741824 < if 1 > patience then 1 else patience then 1073741824 else if 1 > patience then 1 else patience) then 1073741824 else IntKind.wrap .i64
 ((if 1073741824 < if 0 > now then 0 else now then 1073741824 else if 0 > now then 0 else now) + if 1073741824 < if 1 > patience then 1 else patience then 1073741824 else if 1 > patience then 1 else patience)),.dat
 (D.slc (D.hd (hs 4 0)) 1 (D.rows wt)),.dat (D.slc (D.hd (hs 7 0)) 1 (D.rows hd))],.nils,.dat (D.slc (D.hd (hs_4 18 0)) 8 [[D.int .i64 2,D.int .i64 mto,D.int .i64 mf,D.int .i64 mn,D.int .i64 mi,D.int .i64 0,D.slc none 0 [],D.slc none 0 []]])]))
 (.all fun hs_2=>.br (decide (mn < mr)) (.need z3 (.need z3 (.need z3 (.need z3 (.need z3 (.need z3 (.need z3 (.all fun hs_3=>.ret (SV.tup [.agg [.int .i64 mr,.int .i64 mp,.int .i64 mt,.int .i64 mi,.bool frozen,.int .i64 mu,.dat
 (D.slc (D.hd (hs 4 0)) 1 (D.rows wt)),.dat (D.slc (D.hd (hs 7 0)) 1 (D.rows hd))],.nils,.nils]))))))))) (.need z2 (.need z2 (.need z2 (.need z2 (.need z2 (.need z2 (.need z2 (.br (!frozen) (.all fun hs_3=>.ret
 (SV.tup [.agg [.int .i64 mr,.int .i64 mp,.int .i64 mt,.int .i64 mi,.bool frozen,.int .i64 mu,.dat (D.slc (D.hd (hs 4 0)) 1 (D.rows wt)),.dat (D.slc (D.hd (hs 7 0)) 1 (D.rows hd))],.nils,.nils]))
 (.all fun hs_3=>.all fun hs_4=>.ret (SV.tup [.agg [.int .i64 mr,.int .i64 mp,.int .i64 mt,.int .i64 mi,.bool frozen,.int .i64 mu,.dat (D.slc (D.hd (hs 4 0)) 1 (D.rows wt)),.dat (D.slc (D.hd
 (hs 7 0)) 1 (D.rows hd))],.nils,.dat (D.slc (D.hd (hs_3 18 0)) 8 [[D.int .i64 2,D.int .i64 mto,D.int .i64 mf,D.int .i64 mn,D.int .i64 mp,D.int .i64 0,D.slc none 0 [],D.slc none 0 []]])]))))))))))))
 (.br (decide (mk = 3)) (.all fun hs_1=>.br (decide (mn < mr)) (.all fun hs_2=>.ret (SV.tup [.agg [.int .i64 mr,.int .i64 mp,.int .i64 mt,.int .i64 mi,.bool frozen,.int .i64 mu,.dat (D.slc (D.hd
 (hs 4 0)) 1 (D.rows wt)),.dat (D.slc (D.hd (hs 7 0)) 1 (D.rows hd))],.nils,.nils])) (.all fun hs_2=>.br (decide (mn > mr)) (.all fun hs_3=>.all fun hs_4=>.ret (SV.tup [.agg [.int .i64 mr,.int .i64 mp,.int .i64 mt,.int .i64 mi,.bool frozen,.int .i64 mu,.dat
 (D.slc (D.hd (hs 4 0)) 1 (D.rows wt)),.dat (D.slc (D.hd (hs 7 0)) 1 (D.rows hd))],.nils,.dat (D.slc (D.hd (hs_3 18 0)) 8 [[D.int .i64 4,D.int .i64 mto,D.int .i64 mf,D.int .i64 mn,D.int .i64 0,D.int .i64 0,D.slc none 0 [],D.slc none 0 []]])]))
 (.all fun hs_3=>.br frozen (.all fun hs_4=>.br (decide ((if 1073741824 < if 0 > now then 0 else now then 1073741824 else if 0 > now then 0 else now) < mu)) (.br (decide ((if 1073741824 < if 0 > now then 0 else now then 1073741824 else if 0 > now then 0 else now) < mu))
 (.all fun hs_5=>.all fun hs_6=>.ret (SV.tup [.agg [.int .i64 mr,.int .i64 mp,.int .i64 mr,.int .i64 mi,.lb false,.int .i64 mu,.dat (D.slc (D.hd (hs 4 0)) 1 (D.rows wt)),.nils],.dat (D.slc (D.hd
 (hs 7 0)) 1 (D.rows hd)),.dat (D.slc (D.hd (hs_5 18 0)) 8 [[D.int .i64 4,D.int .i64 mto,D.int .i64 mf,D.int .i64 mn,D.int .i64 1,D.int .i64 0,D.slc none 0 [],D.slc none 0 []]])])) (.all fun hs_5=>.all fun hs_6=>.ret
 (SV.tup [.agg [.int .i64 mr,.int .i64 mp,.int .i64 mr,.int .i64 mi,.lb false,.int .i64 mu,.dat (D.slc (D.hd (hs 4 0)) 1 (D.rows wt)),.nils],.dat (D.slc (D.hd (hs 7 0)) 1 (D.rows hd)),.dat (D.slc
 (D.hd (hs_5 18 0)) 8 [[D.int .i64 4,D.int .i64 mto,D.int .i64 mf,D.int .i64 mn,D.int .i64 0,D.int .i64 0,D.slc none 0 [],D.slc none 0 []]])]))) (.br (decide ((if 1073741824 < if 0 > now then 0 else now then 1073741824 else if 0 > now then 0 else now) < mu))
 (.all fun hs_5=>.all fun hs_6=>.ret (SV.tup [.agg [.int .i64 mr,.int .i64 mp,.int .i64 mt,.int .i64 mi,.lb false,.int .i64 mu,.dat (D.slc (D.hd (hs 4 0)) 1 (D.rows wt)),.nils],.dat (D.slc (D.hd
 (hs 7 0)) 1 (D.rows hd)),.dat (D.slc (D.hd (hs_5 18 0)) 8 [[D.int .i64 4,D.int .i64 mto,D.int .i64 mf,D.int .i64 mn,D.int .i64 1,D.int .i64 0,D.slc none 0 [],D.slc none 0 []]])])) (.all fun hs_5=>.all fun hs_6=>.ret
 (SV.tup [.agg [.int .i64 mr,.int .i64 mp,.int .i64 mt,.int .i64 mi,.lb false,.int .i64 mu,.dat (D.slc (D.hd (hs 4 0)) 1 (D.rows wt)),.nils],.dat (D.slc (D.hd (hs 7 0)) 1 (D.rows hd)),.dat (D.slc
 (D.hd (hs_5 18 0)) 8 [[D.int .i64 4,D.int .i64 mto,D.int .i64 mf,D.int .i64 mn,D.int .i64 0,D.int .i64 0,D.slc none 0 [],D.slc none 0 []]])])))) (.br (decide (mt = mr)) (.all fun hs_4=>.all fun hs_5=>.ret
 (SV.tup [.agg [.int .i64 mr,.int .i64 mp,.int .i64 mt,.int .i64 mi,.bool frozen,.int .i64 mu,.dat (D.slc (D.hd (hs 4 0)) 1 (D.rows wt)),.dat (D.slc (D.hd (hs 7 0)) 1 (D.rows hd))],.nils,.dat (D.slc
 (D.hd (hs_4 18 0)) 8 [[D.int .i64 4,D.int .i64 mto,D.int .i64 mf,D.int .i64 mn,D.int .i64 1,D.int .i64 0,D.slc none 0 [],D.slc none 0 []]])])) (.all fun hs_4=>.all fun hs_5=>.ret (SV.tup [.agg [.int .i64 mr,.int .i64 mp,.int .i64 mt,.int .i64 mi,.bool frozen,.int .i64 mu,.dat
 (D.slc (D.hd (hs 4 0)) 1 (D.rows wt)),.dat (D.slc (D.hd (hs 7 0)) 1 (D.rows hd))],.nils,.dat (D.slc (D.hd (hs_4 18 0)) 8 [[D.int .i64 4,D.int .i64 mto,D.int .i64 mf,D.int .i64 mn,D.int .i64 0,D.int .i64 0,D.slc none 0 [],D.slc none 0 []]])]))))))
 (.br (decide (mk = 24)) (.all fun hs_1=>.br (decide (mn = mr)) (.need z5 (.need z5 (.need z5 (.need z5 (.need z5 (.need z5 (.br frozen (.all fun hs_2=>.ret (SV.tup [.agg [.int .i64 mr,.int .i64 mp,.int .i64 mt,.int .i64 mi,.lb false,.int .i64 mu,.dat
 (D.slc (D.hd (hs 4 0)) 1 (D.rows wt)),.nils],.dat (D.slc (D.hd (hs 7 0)) 1 (D.rows hd)),.nils])) (.all fun hs_2=>.ret (SV.tup [.agg [.int .i64 mr,.int .i64 mp,.int .i64 mt,.int .i64 mi,.bool frozen,.int .i64 mu,.dat
 (D.slc (D.hd (hs 4 0)) 1 (D.rows wt)),.dat (D.slc (D.hd (hs 7 0)) 1 (D.rows hd))],.nils,.nils]))))))))) (.need z4 (.need z4 (.need z4 (.need z4 (.need z4 (.need z4 (.all fun hs_2=>.ret (SV.tup [.agg [.int .i64 mr,.int .i64 mp,.int .i64 mt,.int .i64 mi,.bool frozen,.int .i64 mu,.dat
 (D.slc (D.hd (hs 4 0)) 1 (D.rows wt)),.dat (D.slc (D.hd (hs 7 0)) 1 (D.rows hd))],.nils,.nils]))))))))) z1)))))) z1))) := by
 intros; kernel_rfl
theorem iss1_in : exec Try.prog ctM 600 (entry Try.prog 36 [.agg [.int .i64 mr,.int .i64 mp,.int .i64 mt,.int .i64 mi,.bool frozen,.int .i64 mu,.dat wt,.dat hd]]) =
 Tree.need (MbD.Right (MbD.mk mr mp mt mi frozen mu wt hd))
 (.br (checkMb (MbD.mb (MbD.mk mr mp mt mi frozen mu wt hd)) != 0)
 (.ret
 (SV.tup
 [.agg
 [.int .i64 mr,.int .i64 mp,.int .i64 mt,.int .i64 mi,.bool frozen,
 .int .i64 mu,.dat wt,.dat hd],
 .int .i64 (Int.neg 1)]))
 (.br (decide (mi = 4096))
 (.ret
 (SV.tup
 [.agg
 [.int .i64 mr,.int .i64 mp,.int .i64 mt,.int .i64 mi,
 .bool frozen,.int .i64 mu,.dat wt,.dat hd],
 .int .i64 (Int.neg 1)]))
 (.need (D.Is Int wt ∧ D.len wt ≤ 1048576)
 (.all fun hs =>
 .all fun hs_1 =>
 .need
 (D.sz (D.slc (D.hd (hs 0 0)) 1 (D.rows wt)) = 1 ∧
 D.Fits (D.slc (D.hd (hs_1 0 0)) 1 [[D.int .i64 mi]]) 1 ∧
 (D.len (D.slc (D.hd (hs 0 0)) 1 (D.rows wt)) +
 D.len (D.slc (D.hd (hs_1 0 0)) 1 [[D.int .i64 mi]])) *
 8 ≤
 140737488355328 ∧
 D.len (D.slc (D.hd (hs 0 0)) 1 (D.rows wt)) +
 D.len (D.slc (D.hd (hs_1 0 0)) 1 [[D.int .i64 mi]]) ≤
 9223372036854775807)
 (.all fun hs_2 =>
 .ret
 (SV.tup
 [.agg
 [.int .i64 mr,.int .i64 mp,.int .i64 mt,
 .int .i64 (IntKind.wrap .i64 (mi + 1)),.bool frozen,.int .i64 mu,
 .dat
 (D.slc (D.hd (hs_2 0 0)) 1
 (List.append (D.rows (D.slc (D.hd (hs 0 0)) 1 (D.rows wt)))
 (D.rows (D.slc (D.hd (hs_1 0 0)) 1 [[D.int .i64 mi]])))),
 .dat hd],
 .int .i64 mi])))))) := by kernel_rfl
theorem iss2_in : exec Try.prog ctM 600 (entry Try.prog 37 [.agg [.int .i64 mr,.int .i64 mp,.int .i64 mt,.int .i64 mi,.bool frozen,.int .i64 mu,.dat wt,.dat hd]]) =
 Tree.need (MbD.Right (MbD.mk mr mp mt mi frozen mu wt hd))
 (.br (checkMb (MbD.mb (MbD.mk mr mp mt mi frozen mu wt hd)) != 0)
 (.ret
 (SV.tup
 [.agg
 [.int .i64 mr,.int .i64 mp,.int .i64 mt,.int .i64 mi,.bool frozen,
 .int .i64 mu,.dat wt,.dat hd],
 .int .i64 (Int.neg 1)]))
 (.br (decide (mi = 4096))
 (.ret
 (SV.tup
 [.agg
 [.int .i64 mr,.int .i64 mp,.int .i64 mt,.int .i64 mi,
 .bool frozen,.int .i64 mu,.dat wt,.dat hd],
 .int .i64 (Int.neg 1)]))
 (.all fun hs =>
 .need
 (D.sz (D.slc (D.hd (hs 0 0)) 1 []) = 1 ∧
 D.Fits wt 1 ∧
 (D.len (D.slc (D.hd (hs 0 0)) 1 []) + D.len wt) * 8 ≤ 140737488355328 ∧
 D.len (D.slc (D.hd (hs 0 0)) 1 []) + D.len wt ≤ 9223372036854775807)
 (.all fun hs_1 =>
 .all fun hs_2 =>
 .need
 (D.sz (D.slc (D.hd (hs_1 0 0)) 1 (List.append (D.rows (D.slc (D.hd (hs 0 0)) 1 [])) (D.rows wt))) = 1 ∧
 D.Fits (D.slc (D.hd (hs_2 0 0)) 1 [[D.int .i64 mi]]) 1 ∧
 (D.len (D.slc (D.hd (hs_1 0 0)) 1 (List.append (D.rows (D.slc (D.hd (hs 0 0)) 1 [])) (D.rows wt))) +
 D.len (D.slc (D.hd (hs_2 0 0)) 1 [[D.int .i64 mi]])) *
 8 ≤
 140737488355328 ∧
 D.len
 (D.slc (D.hd (hs_1 0 0)) 1
 (List.append (D.rows (D.slc (D.hd (hs 0 0)) 1 [])) (D.rows wt))) +
 D.len (D.slc (D.hd (hs_2 0 0)) 1 [[D.int .i64 mi]]) ≤
 9223372036854775807)
 (.all fun hs_3 =>
 .ret
 (SV.tup
 [.agg
 [.int .i64 mr,.int .i64 mp,.int .i64 mt,
 .int .i64 (IntKind.wrap .i64 (mi + 1)),.bool frozen,
 .int .i64 mu,
 .dat
 (D.slc (D.hd (hs_3 0 0)) 1
 (List.append
 (D.rows
 (D.slc (D.hd (hs_1 0 0)) 1
 (List.append (D.rows (D.slc (D.hd (hs 0 0)) 1 [])) (D.rows wt))))
 (D.rows (D.slc (D.hd (hs_2 0 0)) 1 [[D.int .i64 mi]])))),
 .dat hd],
 .int .i64 mi])))))) := by kernel_rfl
theorem exp1_in : exec Try.prog ctM 600 (entry Try.prog 29 [.agg [.int .i64 nodes,.int .i64 round,.int .i64 phase,.int .i64 deadline,.dat d,.dat s,.bool valid],.int .i64 now]) =
 Tree.need (D.Is Int d ∧ D.Is Bool s)
 (.br (checkCo (CoD.co (CoD.mk nodes round phase deadline d s valid)) != 0)
 (.ret
 (SV.tup
 [.agg
 [.int .i64 nodes,.int .i64 round,.int .i64 phase,.int .i64 deadline,
 .dat d,.dat s,.bool valid],
 .nils]))
 (.br (decide (phase = 0))
 (.ret
 (SV.tup
 [.agg
 [.int .i64 nodes,.int .i64 round,.int .i64 phase,
 .int .i64 deadline,.dat d,.dat s,.bool valid],
 .nils]))
 (.br (decide (now < deadline))
 (.ret
 (SV.tup
 [.agg
 [.int .i64 nodes,.int .i64 round,.int .i64 phase,
 .int .i64 deadline,.dat d,.dat s,.bool valid],
 .nils]))
 (.all fun hs =>
 .need (D.Is Int d ∧ D.len d ≤ 1048576)
 (.need (D.Is Bool s ∧ D.len s ≤ 1048576)
 (.need (nodes ≤ 8)
 (.all fun hs_1 =>
 .ret
 (SV.tup
 [.agg
 [.int .i64 nodes,.int .i64 round,.int .i64 0,
 .int .i64 deadline,.dat (D.slc (D.hd (hs 2 0)) 1 (D.rows d)),
 .dat (D.slc (D.hd (hs 5 0)) 1 (D.rows s)),.lb false],
 .dat (D.like (hs_1 0 0) (msgsTo nodes round 24))])))))))) := by kernel_rfl
theorem exp2_in : exec Try.prog ctM 600 (entry Try.prog 30 [.agg [.int .i64 nodes,.int .i64 round,.int .i64 phase,.int .i64 deadline,.dat d,.dat s,.bool valid],.int .i64 now]) =
 Tree.need (D.Is Int d ∧ D.Is Bool s)
 (.br (checkCo (CoD.co (CoD.mk nodes round phase deadline d s valid)) != 0)
 (.ret
 (SV.tup
 [.agg
 [.int .i64 nodes,.int .i64 round,.int .i64 phase,.int .i64 deadline,
 .dat d,.dat s,.bool valid],
 .nils]))
 (.br (decide (phase = 0))
 (.ret
 (SV.tup
 [.agg
 [.int .i64 nodes,.int .i64 round,.int .i64 phase,
 .int .i64 deadline,.dat d,.dat s,.bool valid],
 .nils]))
 (.br (decide (now < deadline))
 (.ret
 (SV.tup
 [.agg
 [.int .i64 nodes,.int .i64 round,.int .i64 phase,
 .int .i64 deadline,.dat d,.dat s,.bool valid],
 .nils]))
 (.need (D.Is Int d ∧ D.Is Bool s ∧ nodes ≤ 8)
 (.all fun hs =>
 .ret
 (SV.tup
 [.agg
 [.int .i64 nodes,.int .i64 round,.int .i64 0,
 .int .i64 deadline,.dat (D.like (hs 0 0) (D.to Int d)),
 .dat (D.like (hs 0 1) (D.to Bool s)),.bool false],
 .dat (D.like (hs 0 2) (msgsTo nodes round 24))])))))) := by kernel_rfl
end
section
variable (n j now patience : Int) (a b d s wt hd : D) (frozen : Bool) (mr mp mt mi mu : Int) (mk mf mto mn mv me : Int) (ml mb : D) (nodes round phase deadline : Int) (valid : Bool)
theorem obey2_in : 
 let z2 : List SV := [.int .i64 mr,.int .i64 mp,.int .i64 mt,.int .i64 mi,.bool frozen,.int .i64 mu,.dat wt,.dat hd]
 let z4 : Tree := (.ret (SV.tup [.agg z2,.nils,.nils]))
 let z8 := (MbD.mk mr mp mt mi frozen mu wt hd)
 let z6 : Tree := (.br (decide (mk = 24)) (.br (decide (mn = mr)) (.br frozen (.need (MbD.Right z8) (.all fun hs=>.ret (SV.tup [.agg [.int .i64 mr,.int .i64 mp,.int .i64 mt,.int .i64 mi,.bool false,.int .i64 mu,.dat (D.like (hs 0 0) (D.to Int wt)),.dat (D.like (hs 0 1) ([] : List Int))],.dat (D.like (hs 0 2) (D.to Int hd)),.nils]))) z4) z4) z4)
 let z9 := (MsgD.msg (MsgD.mk mk mf mto mn mv me ml mb))
 let z5 := (endMb (MbD.mb z8) (if 1073741824 < if 0 > now then 0 else now then 1073741824 else if 0 > now then 0 else now) z9)
 let z7 : Tree := (.br (decide (mk = 3)) (.br (decide (mn > mr)) (.all fun hs=>.ret (SV.tup [.agg z2,.nils,.dat (D.like (hs 2 0) (ansTo z9 4 0))])) z6) z6)
 let z1 : Tree := (.br (decide (mk = 3)) (.br (decide (mn = mr)) (.need (MbD.Right z8) (.all fun hs=>.ret (SV.tup [.agg [.int .i64 (Mb.round (Prod.fst z5)),.int .i64 (Mb.position (Prod.fst z5)),.int .i64 (Mb.thawed (Prod.fst z5)),.int .i64 (Mb.issued (Prod.fst z5)),.bool (Mb.frozen (Prod.fst z5)),.int .i64 (Mb.upto (Prod.fst z5)),.dat (D.like (hs 0 0) (Mb.waiting (Prod.fst z5))),.dat (D.like (hs 0 1) (Mb.held (Prod.fst z5)))],.dat (D.like (hs 0 2) (Prod.fst (Prod.snd z5))),.dat (D.like (hs 0 3) (Prod.snd (Prod.snd z5)))]))) z7) z7)
 let z3 : Tree := (.br (decide (mk = 1)) (.br (decide (mn = mr)) (.br frozen (.all fun hs=>.ret (SV.tup [.agg z2,.nils,.dat (D.like (hs 4 0) (ansTo z9 2 mp))])) z1) z1) z1)
 exec Try.prog ctM 800 (entry Try.prog 25 [.agg [.int .i64 mr,.int .i64 mp,.int .i64 mt,.int .i64 mi,.bool frozen,.int .i64 mu,.dat wt,.dat hd],.int .i64 now,.int .i64 patience,.agg [.int .i64 mk,.int .i64 mf,.int .i64 mto,.int .i64 mn,.int .i64 mv,.int .i64 me,.dat ml,.dat mb]]) =
 Tree.need (MbD.Right z8) (.br (checkMb (MbD.mb z8) != 0) z4 (.br (decide (mn < 1)) z4 (.br (decide (mn > 1073741824)) z4 (.br (decide (mk = 1)) (.br (decide (mn > mr)) (.all fun hs=>.ret (SV.tup [.agg [.int .i64 mn,.int .i64 mi,.int .i64 mt,.int .i64 mi,.lb true,.int .i64
 (if 1073741824 < IntKind.wrap .i64 ((if 1073741824 < if 0 > now then 0 else now then 1073741824 else if 0 > now then 0 else now) + if 1073741824 < if 1 > patience then 1 else patience then 1073741824 else if 1 > patience then 1 else patience) then 1073741824 else IntKind.wrap .i64
 ((if 1073741824 < if 0 > now then 0 else now then 1073741824 else if 0 > now then 0 else now) + if 1073741824 < if 1 > patience then 1 else patience then 1073741824 else if 1 > patience then 1 else patience)),.dat wt,.dat hd],.nils,.dat
 (D.like (hs 4 0) (ansTo z9 2 mi))])) z3) z3)))) := by
 intros; kernel_rfl
end
end Sv.B21
end
noncomputable section
open Go Go.Proofs Sx
namespace Sx

theorem clampT_eq {lo n : Int} : (if 1073741824 < (if lo > n then lo else n) then 1073741824 else if lo > n then lo else n) = clampT lo n := by
 unfold clampT
 split <;> split at * <;> omega

theorem clampT_le (lo n : Int) : clampT lo n ≤ 1073741824 := by unfold clampT; omega
theorem clampT_ge {lo n : Int} (h : lo ≤ 1073741824) : lo ≤ clampT lo n := by unfold clampT; omega

theorem upto_eq {now patience : Int} : (if 1073741824 < IntKind.wrap .i64 (clampT 0 now + clampT 1 patience) then 1073741824 else IntKind.wrap .i64 (clampT 0 now + clampT 1 patience)) = min (clampT 0 now + clampT 1 patience) 1073741824 := by
 have h1 := clampT_le 0 now
 have h2 := clampT_le 1 patience
 have h3 := clampT_ge (lo := 0) (n := now) (by omega)
 have h4 := clampT_ge (lo := 1) (n := patience) (by omega)
 rw [wrap64 (by omega) (by omega)]
 split <;> omega
theorem issue_bad {m : Mb} (h : ¬checkMb m = 0 ∨ m.issued = 4096) : issueMb m = (m,-1) := by rw [issueMb,if_pos h]
theorem issue_ok {m : Mb} (h : checkMb m = 0) (h2 : ¬m.issued = 4096) : issueMb m = (⟨m.round,m.position,m.thawed,m.issued + 1,m.frozen,m.upto,m.waiting ++ [m.issued],m.held⟩,m.issued) := by
 rw [issueMb,if_neg (by simp [h,h2])]
theorem checkMb_issued {m : Mb} (h : checkMb m = 0) : 0 ≤ m.issued ∧ m.issued ≤ 4096 := by
 unfold checkMb at h
 split at h
 ·cases h
 ·rename_i hh
  simp only [headMb,Bool.not_eq_false,decide_eq_true_eq] at hh
  omega
theorem exp_bad {c : Co} {now : Int} (h : ¬checkCo c = 0 ∨ c.phase = 0 ∨ now < c.deadline) : expireCo c now = (c,[]) := by rw [expireCo,if_pos h]
theorem exp_ok {c : Co} {now : Int} (h : checkCo c = 0) (h2 : ¬c.phase = 0) (h3 : ¬now < c.deadline) : expireCo c now = (⟨c.nodes,c.round,0,c.deadline,c.positions,c.seen,false⟩,msgsTo c.nodes c.round 24) := by
 rw [expireCo,if_neg (by simp [h,h2]; omega)]; rfl
end Sx

namespace Sv.B21

theorem ctMOk : Ctrs.Ok Try.prog ctM := by
 intro x hx
 simp only [ctM,List.mem_cons] at hx
 rcases hx with rfl | rfl | rfl | rfl | rfl | rfl | rfl | rfl | rfl | hx
 ·exact ctrOf_ok lawCM1
 ·exact ctrOf_ok lawCM2
 ·exact ctrOf_ok lawCont
 ·exact ctrOf_ok lawHas
 ·exact ctrOf_ok lawAns
 ·exact ctrOf_ok lawEnd
 ·exact ctrOf_ok lawThaw
 ·exact ctrOf_ok lawEvery
 ·exact ctrOf_ok lawGive
 ·exact ctBOk _ hx

theorem lawObey1 : Law Try.prog 24 ((rdMb.four rdInt rdInt rdMsg).sp spObey) := by
 refine law_in _ (by kernel_rfl) fun H w ⟨⟨r,p,t,i,f,u,wt,hd⟩,now,pat,⟨mk,mf,mto,mn,mv,me,ml,mb⟩⟩ hok hp=>?_
 have hR := hp _ (List.mem_singleton.2 rfl)
 have hR' := hR
 obtain ⟨hw,hh,lw,lh⟩ := hR
 simp only at hw hh lw lh
 clear hp hok
 have hw2 : wt.Is Int ∧ wt.len ≤ 1048576 := ⟨hw,by omega⟩
 have hh2 : hd.Is Int ∧ hd.len ≤ 1048576 := ⟨hh,by omega⟩
 apply exec_sound ctMOk 800
 rw [show (rdMb.four rdInt rdInt rdMsg).canon (⟨r,p,t,i,f,u,wt,hd⟩,now,pat,⟨mk,mf,mto,mn,mv,me,ml,mb⟩) = [.agg [.int .i64 r,.int .i64 p,.int .i64 t,.int .i64 i,.bool f,.int .i64 u,.dat wt,.dat hd],.int .i64 now,.int .i64 pat,.agg [.int .i64 mk,.int .i64 mf,.int .i64 mto,.int .i64 mn,.int .i64 mv,.int .i64 me,.dat ml,.dat mb]] from rfl,obey1_in]
 have hq : ∃ q,checkMb (MbD.mb ⟨r,p,t,i,f,u,wt,hd⟩) = q ∧ checkMb ⟨r,p,t,i,f,u,wt.to Int,hd.to Int⟩ = q := ⟨_,rfl,rfl⟩
 obtain ⟨q,hq,hq'⟩ := hq
 simp only [clampT_eq,upto_eq,hq]
 simp only [MbD.mb,MsgD.msg]
 clear hq
 refine ⟨hR',?_⟩
 clear hR'
 repeat' first
  | refine ⟨fun hc=>?_,fun hc=>?_⟩
  | refine ⟨by assumption,?_⟩
  | with_reducible refine holds_all.2 fun hs=>?_
  | fail
 all_goals (
  apply ret_mb3
  case hf=>first | exact fun _=>rfl | exact lb_den
  case hw=>first | exact stands_self hw | exact stands_rows rfl (rows_of hw) | exact stands_nils
  case hh=>first | exact stands_self hh | exact stands_rows rfl (rows_of hh) | exact stands_nils
  case hx=>first | exact stands_self hh | exact stands_rows rfl (rows_of hh) | exact stands_nils
  case hy=>first | exact stands_nils | exact stands_rows rfl (msg_row' rfl))
 all_goals (unfold obeyMb; simp only [hq']; clear hq' hw hh lw lh hw2 hh2)
 all_goals (simp only [endMb,ansTo,gt_iff_lt,ge_iff_le,decide_eq_true_eq,decide_eq_false_iff_not,bne_iff_ne,ne_eq,bne_eq_false_iff_eq,Bool.not_eq_true',Bool.not_eq_false',Decidable.not_not] at *)
 all_goals (cases f <;> (try simp only [reduceCtorEq] at *) <;> (repeat' split) <;> first | rfl | (exfalso; omega) | (exfalso; simp only [and_true,and_false] at *; done) | (exfalso; simp only [and_true,and_false] at *; omega) | skip)
theorem lawObey2 : Law Try.prog 25 ((rdMb.four rdInt rdInt rdMsg).sp spObey) := by
 refine law_in _ (by kernel_rfl) fun H w ⟨⟨r,p,t,i,f,u,wt,hd⟩,now,pat,⟨mk,mf,mto,mn,mv,me,ml,mb⟩⟩ hok hp=>?_
 have hR := hp _ (List.mem_singleton.2 rfl)
 have hR' := hR
 obtain ⟨hw,hh,lw,lh⟩ := hR
 simp only at hw hh lw lh
 clear hp hok
 have hw2 : wt.Is Int ∧ wt.len ≤ 1048576 := ⟨hw,by omega⟩
 have hh2 : hd.Is Int ∧ hd.len ≤ 1048576 := ⟨hh,by omega⟩
 apply exec_sound ctMOk 800
 rw [show (rdMb.four rdInt rdInt rdMsg).canon (⟨r,p,t,i,f,u,wt,hd⟩,now,pat,⟨mk,mf,mto,mn,mv,me,ml,mb⟩) = [.agg [.int .i64 r,.int .i64 p,.int .i64 t,.int .i64 i,.bool f,.int .i64 u,.dat wt,.dat hd],.int .i64 now,.int .i64 pat,.agg [.int .i64 mk,.int .i64 mf,.int .i64 mto,.int .i64 mn,.int .i64 mv,.int .i64 me,.dat ml,.dat mb]] from rfl,obey2_in]
 have hq : ∃ q,checkMb (MbD.mb ⟨r,p,t,i,f,u,wt,hd⟩) = q ∧ checkMb ⟨r,p,t,i,f,u,wt.to Int,hd.to Int⟩ = q := ⟨_,rfl,rfl⟩
 obtain ⟨q,hq,hq'⟩ := hq
 simp only [clampT_eq,upto_eq,hq]
 simp only [MbD.mb,MsgD.msg]
 clear hq
 refine ⟨hR',?_⟩
 repeat' first
  | refine ⟨fun hc=>?_,fun hc=>?_⟩
  | refine ⟨by assumption,?_⟩
  | with_reducible refine holds_all.2 fun hs=>?_
  | fail
 all_goals (
  apply ret_mb3
  case hf=>first | exact fun _=>rfl | exact lb_den
  case hw=>first | exact stands_like | exact stands_self hw | exact stands_rows rfl (rows_of hw) | exact stands_nils
  case hh=>first | exact stands_like | exact stands_self hh | exact stands_rows rfl (rows_of hh) | exact stands_nils
  case hx=>first | exact stands_like | exact stands_self hh | exact stands_rows rfl (rows_of hh) | exact stands_nils
  case hy=>first | exact stands_like | exact stands_nils | exact stands_rows rfl (msg_row' rfl))
 all_goals (unfold obeyMb; simp only [hq']; clear hq' hw hh lw lh hw2 hh2 hR')
 all_goals (simp only [gt_iff_lt,ge_iff_le,decide_eq_true_eq,decide_eq_false_iff_not,bne_iff_ne,ne_eq,bne_eq_false_iff_eq,Bool.not_eq_true',Bool.not_eq_false',Decidable.not_not] at *)
 all_goals (cases f <;> (try simp only [reduceCtorEq] at *) <;> (repeat' split) <;> first | rfl | (exfalso; omega) | (exfalso; simp only [and_true,and_false] at *; done) | (exfalso; simp only [and_true,and_false] at *; omega) | skip)

theorem lawIssue1 : Law Try.prog 36 (rdMb.one.sp spIssue) := by
 refine law_in _ (by kernel_rfl) fun H w ⟨r,p,t,i,f,u,wt,hd⟩ hok hp=>?_
 have hR := hp _ (List.mem_singleton.2 rfl)
 have hR' := hR
 obtain ⟨hw,hh,lw,lh⟩ := hR
 simp only at hw hh lw lh
 have hl := D.Is.length (α := Int) wt
 have hl2 := rows_len (rows_of hw)
 clear hp hok
 apply exec_sound ctMOk 600
 rw [show rdMb.one.canon ⟨r,p,t,i,f,u,wt,hd⟩ = [.agg [.int .i64 r,.int .i64 p,.int .i64 t,.int .i64 i,.bool f,.int .i64 u,.dat wt,.dat hd]] from rfl,iss1_in]
 refine ⟨hR',fun hc=>?_,fun hc=>⟨fun hc2=>?_,fun hc2=>⟨⟨hw,by omega⟩,fun hs hs1=>⟨?_,fun hs2=>?_⟩⟩⟩⟩
 ·simp only [bne_iff_ne,ne_eq] at hc
  exact ret_mbI (fun _=>rfl) (stands_self hw) (stands_self hh) (issue_bad (.inl hc))
 ·simp only [decide_eq_true_eq] at hc2
  exact ret_mbI (fun _=>rfl) (stands_self hw) (stands_self hh) (issue_bad (.inr hc2))
 ·exact ⟨rfl,.inr rfl,by simp only [len_slc,List.length_cons,List.length_nil]; omega,by simp only [len_slc,List.length_cons,List.length_nil]; omega⟩
 ·simp only [bne_eq_false_iff_eq] at hc
  simp only [decide_eq_false_iff_not] at hc2
  have hi : 0 ≤ i ∧ i ≤ 4096 := checkMb_issued hc
  have hr : SRows Int (List.append (D.rows wt) [[.int .i64 i]]) (wt.to Int ++ [i]) := rows_app (rows_of hw) (rows_one ⟨_,rfl⟩ rfl)
  rw [wrap64 (by omega) (by omega)]
  exact ret_mbI (fun _=>rfl) (stands_rows rfl hr) (stands_self hh) (issue_ok hc hc2)

theorem lawIssue2 : Law Try.prog 37 (rdMb.one.sp spIssue) := by
 refine law_in _ (by kernel_rfl) fun H w ⟨r,p,t,i,f,u,wt,hd⟩ hok hp=>?_
 have hR := hp _ (List.mem_singleton.2 rfl)
 have hR' := hR
 obtain ⟨hw,hh,lw,lh⟩ := hR
 simp only at hw hh lw lh
 have hl := D.Is.length (α := Int) wt
 have hl2 := rows_len (rows_of hw)
 clear hp hok
 apply exec_sound ctMOk 600
 rw [show rdMb.one.canon ⟨r,p,t,i,f,u,wt,hd⟩ = [.agg [.int .i64 r,.int .i64 p,.int .i64 t,.int .i64 i,.bool f,.int .i64 u,.dat wt,.dat hd]] from rfl,iss2_in]
 refine ⟨hR',fun hc=>?_,fun hc=>⟨fun hc2=>?_,fun hc2 hs=>⟨⟨rfl,hw.fits,by simp only [len_slc,List.length_nil]; omega,by simp only [len_slc,List.length_nil]; omega⟩,fun hs1 hs2=>⟨?_,fun hs3=>?_⟩⟩⟩⟩
 ·simp only [bne_iff_ne,ne_eq] at hc
  exact ret_mbI (fun _=>rfl) (stands_self hw) (stands_self hh) (issue_bad (.inl hc))
 ·simp only [decide_eq_true_eq] at hc2
  exact ret_mbI (fun _=>rfl) (stands_self hw) (stands_self hh) (issue_bad (.inr hc2))
 ·have e : (List.append (D.rows (D.slc (D.hd (hs 0 0)) 1 [])) (D.rows wt)).length = wt.rows.length := rfl
  exact ⟨rfl,.inr rfl,by simp only [len_slc,e,List.length_cons,List.length_nil]; omega,by simp only [len_slc,e,List.length_cons,List.length_nil]; omega⟩
 ·simp only [bne_eq_false_iff_eq] at hc
  simp only [decide_eq_false_iff_not] at hc2
  have hi : 0 ≤ i ∧ i ≤ 4096 := checkMb_issued hc
  have hr : SRows Int (List.append (D.rows wt) [[.int .i64 i]]) (wt.to Int ++ [i]) := rows_app (rows_of hw) (rows_one ⟨_,rfl⟩ rfl)
  rw [wrap64 (by omega) (by omega)]
  exact ret_mbI (fun _=>rfl) (stands_rows rfl hr) (stands_self hh) (issue_ok hc hc2)

theorem lawExp1 : Law Try.prog 29 ((rdCo.two rdInt).sp spExp) := by
 refine law_in _ (by kernel_rfl) fun H w ⟨⟨n,r,p,dl,d,s,v⟩,now⟩ hok hp=>?_
 obtain ⟨hd,hs⟩ := hp _ (List.mem_singleton.2 rfl)
 simp only at hd hs
 apply exec_sound ctMOk 600
 rw [show (rdCo.two rdInt).canon (⟨n,r,p,dl,d,s,v⟩,now) = [.agg [.int .i64 n,.int .i64 r,.int .i64 p,.int .i64 dl,.dat d,.dat s,.bool v],.int .i64 now] from rfl,exp1_in]
 refine ⟨⟨hd,hs⟩,fun hc=>?_,fun hc=>⟨fun hc2=>?_,fun hc2=>⟨fun hc3=>?_,fun hc3 h1=>?_⟩⟩⟩
 ·simp only [bne_iff_ne,ne_eq] at hc
  exact ret_co2 (stands_self hd) (stands_self hs) (fun _=>rfl) stands_nils (exp_bad (.inl hc))
 ·simp only [decide_eq_true_eq] at hc2
  exact ret_co2 (stands_self hd) (stands_self hs) (fun _=>rfl) stands_nils (exp_bad (.inr (.inl hc2)))
 ·simp only [decide_eq_true_eq] at hc3
  exact ret_co2 (stands_self hd) (stands_self hs) (fun _=>rfl) stands_nils (exp_bad (.inr (.inr hc3)))
 ·simp only [bne_eq_false_iff_eq] at hc
  simp only [decide_eq_false_iff_not] at hc2 hc3
  have hz := checkCo_zero.1 (show checkCo ⟨n,r,p,dl,d.to Int,s.to Bool,v⟩ = 0 from hc)
  have l1 := D.Is.length (α := Int) d
  have l2 := D.Is.length (α := Bool) s
  exact ⟨⟨hd,by omega⟩,⟨hs,by omega⟩,by omega,fun h2=>ret_co2 (stands_rows rfl (rows_of hd)) (stands_rows rfl (rows_of hs)) lb_den stands_like (exp_ok hc hc2 hc3)⟩

theorem lawExp2 : Law Try.prog 30 ((rdCo.two rdInt).sp spExp) := by
 refine law_in _ (by kernel_rfl) fun H w ⟨⟨n,r,p,dl,d,s,v⟩,now⟩ hok hp=>?_
 obtain ⟨hd,hs⟩ := hp _ (List.mem_singleton.2 rfl)
 simp only at hd hs
 apply exec_sound ctMOk 600
 rw [show (rdCo.two rdInt).canon (⟨n,r,p,dl,d,s,v⟩,now) = [.agg [.int .i64 n,.int .i64 r,.int .i64 p,.int .i64 dl,.dat d,.dat s,.bool v],.int .i64 now] from rfl,exp2_in]
 refine ⟨⟨hd,hs⟩,fun hc=>?_,fun hc=>⟨fun hc2=>?_,fun hc2=>⟨fun hc3=>?_,fun hc3=>?_⟩⟩⟩
 ·simp only [bne_iff_ne,ne_eq] at hc
  exact ret_co2 (stands_self hd) (stands_self hs) (fun _=>rfl) stands_nils (exp_bad (.inl hc))
 ·simp only [decide_eq_true_eq] at hc2
  exact ret_co2 (stands_self hd) (stands_self hs) (fun _=>rfl) stands_nils (exp_bad (.inr (.inl hc2)))
 ·simp only [decide_eq_true_eq] at hc3
  exact ret_co2 (stands_self hd) (stands_self hs) (fun _=>rfl) stands_nils (exp_bad (.inr (.inr hc3)))
 ·simp only [bne_eq_false_iff_eq] at hc
  simp only [decide_eq_false_iff_not] at hc2 hc3
  have hz := checkCo_zero.1 (show checkCo ⟨n,r,p,dl,d.to Int,s.to Bool,v⟩ = 0 from hc)
  exact ⟨⟨hd,hs,by omega⟩,fun h2=>ret_co2 stands_like stands_like (fun _=>rfl) stands_like (exp_ok hc hc2 hc3)⟩
end Sv.B21
end
noncomputable section
namespace Sx
open Go
def atDst (c : Conf) : Option (FuncId × Nat) :=
 match c.top.ri with
 | some _=>none
 | none=>match c.top.todo with
  | .code (.region _ ops _) :: _=>match ops[0]? with
   | some o=>match o.dst with
    | some d=>some (c.top.fn,d)
    | none=>none
   | none=>none
  | _=>none

def restsAt (l : List (FuncId × Nat)) (c : Conf) : Bool :=
 match atDst c with
 | some (f,d)=>l.any fun x=>x.1 == f && x.2 == d
 | none=>false
def liveW (P : Program) (g : SFrm) : List Nat :=
 let out := (liveI (retN P g.fn) g.todo).1
 let live := match g.ri with
  | some (ops,l)=>liveOps ops (l.filterMap fun i=>ops[i]?) out
  | none=>out
 match g.await with
 | some t=>live.filter (· != t)
 | none=>live
def fgtR (P : Program) (c : Conf) : Conf :=
 match c.rest with
 | []=>c
 | g :: r =>
  let n := 1000 * r.length
  let live := liveW P g
  if keptOk n live 0 g.tmps && c.mem.all (fun e=>!e.2.jk n) && r.all (fun f=>!SV.jkL n f.tmps) && !SV.jkL n c.top.tmps then
   { c with rest := { g with tmps := maskT n live 0 g.tmps } :: r }
  else c

theorem fgtR_sound {P : Program} {C : Ctx} {R : Value → World → Prop} {c : Conf} (h : Runs P C (fgtR P c) R) : Runs P C c R := by
 obtain ⟨top,rest,mem⟩ := c
 unfold fgtR at h
 simp only at h
 cases rest with
 | nil=>exact h
 | cons g r =>
  simp only at h
  split at h
  ·rename_i hc
   simp only [Bool.and_eq_true,Bool.not_eq_true'] at hc
   obtain ⟨⟨⟨h1,h2⟩,h3⟩,h4⟩ := hc
   intro E H w gd ok
   let n := 1000 * r.length
   let E' : Env := ⟨E.b,E.v,fun i=>if i < n then E.j i else ((SV.denL E g.tmps)[i - n]?).getD Go.undef⟩
   have hs : Same n E E' := ⟨rfl,rfl,fun i hi=>by simp [E',hi]⟩
   have hg := gd.same' hs (fun x hx=>by have := List.all_eq_true.1 h2 x hx; simpa using this)
   have hr := h E' H w hg ⟨ok.1,fun f hf=>by
    rcases List.mem_cons.1 hf with rfl | hf
    ·exact maskT_ok _ _ _ (ok.2 g (by simp))
    ·exact ok.2 f (by simp [hf])⟩
   have e1 : SV.denL E' (maskT n (liveW P g) 0 g.tmps) = SV.denL E g.tmps := by
    refine maskT_den hs _ _ 0 h1 (fun i v hv=>?_)
    simp only [E',Nat.zero_add]
    rw [if_neg (by omega),show n + i - n = i from by omega,SV.denL_eq,List.getElem?_map,hv]
    rfl
   have e2 : r.map (SFrm.den E') = r.map (SFrm.den E) := by
    apply List.map_congr_left
    intro f hf
    have := List.all_eq_true.1 h3 f hf
    simp only [Bool.not_eq_true'] at this
    simp [SFrm.den,denL_same hs _ this]
   have e3 : SFrm.den E' top = top.den E := by simp [SFrm.den,denL_same hs _ h4]
   have e4 : SFrm.den E' { g with tmps := maskT n (liveW P g) 0 g.tmps } = g.den E := by
    simp only [SFrm.den]; rw [e1]
   simp only [List.map_cons] at hr ⊢
   rw [e2,e3] at hr
   rw [show SFrm.den E' { g with tmps := maskT (1000 * r.length) (liveW P g) 0 g.tmps } = g.den E from e4] at hr
   exact hr
  ·exact h
def restC (P : Program) (c : Conf) : Tree := headC P (fgtR P c) leafR
def execS (P : Program) (cs : Ctrs) (U : FuncId → Bool) (S : List (FuncId × Nat)) (n : Nat) : Conf → Tree :=
 Nat.rec (motive := fun _=>Conf → Tree) (fun _=>.stuck) (fun _ ih c=>match restsAt S c with
  | true=>restC P c
  | false=>stepC P cs U ih c) n
def goS (P : Program) (cs : Ctrs) (U : FuncId → Bool) (S : List (FuncId × Nat)) (n : Nat) (c : Conf) : Tree := stepC P cs U (execS P cs U S n) c

section
variable {P : Program} {C : Ctx} {R : Value → World → Prop} {cs : Ctrs}
theorem execS_sound (hcs : cs.Ok P) (U : FuncId → Bool) (S : List (FuncId × Nat)) : ∀ (n : Nat) (c : Conf),(execS P cs U S n c).holds P C R → Runs P C c R
 | 0,_,h=>h.elim
 | n + 1,c,h=>by
  have e : execS P cs U S (n + 1) c = match restsAt S c with
   | true=>restC P c
   | false=>stepC P cs U (execS P cs U S n) c := rfl
  rw [e] at h
  cases hr : restsAt S c with
  | true=>rw [hr] at h; exact fgtR_sound (headR_sound h)
  | false=>rw [hr] at h; exact step_sound (U := U) hcs (fun c h=>execS_sound hcs U S n c h) c h
theorem goS_sound (hcs : cs.Ok P) (U : FuncId → Bool) (S : List (FuncId × Nat)) (n : Nat) (c : Conf) (h : (goS P cs U S n c).holds P C R) : Runs P C c R :=
 step_sound (U := U) hcs (fun c h=>execS_sound hcs U S n c h) c h
end

/-! A cell that is known to be true. -/


end Sx
end
noncomputable section
open Go Go.Proofs Sx
namespace Sv.B21
def msgV (mk mf mto mn mv me : Int) (ml mb : D) : SV := .agg [.int .i64 mk,.int .i64 mf,.int .i64 mto,.int .i64 mn,.int .i64 mv,.int .i64 me,.dat ml,.dat mb]
def colM (n r p dl : Int) (v : SV) (ps ss : D) : Mem := [(0,.cells 111 [.int .i64 n,.int .i64 r,.int .i64 p,.int .i64 dl,.vec 2,.vec 3,v]),
 (1,.cells 25 [.int .i64 0,.int .i64 0,.int .i64 0,.int .i64 0,.nils,.nils,.lb false]),(2,.arr 3 ps),(3,.arr 4 ss)]
def fr27 : SFrm := SFrm.mk 27 (some (oA 27 [1,1,1,1,1,0],[3])) (some 65) [Item.code (cA 27 [1,1,1,1,1,1])] (mkJ 0 [(6,.ptr 1 0),(8,.ptr 0 0)] 0 71)
def frzC (n r p dl : Int) (v : SV) (ps ss : D) (mk mf mto mn mv me : Int) (ml mb : D) : Conf := Conf.mk (SFrm.mk 62 none none [Item.code (cA 62 [0]),Item.code (cA 62 [1])]
 (mkJ 1 [(0,.ptr 0 0),(1,msgV mk mf mto mn mv me ml mb)] 0 63)) [fr27] (colM n r p dl v ps ss)
def thwC (n r p dl : Int) (v : SV) (ps ss : D) (mk mf mto mn mv me : Int) (ml mb : D) : Conf := Conf.mk (SFrm.mk 63 none none [Item.code (cA 63 [0]),Item.code (cA 63 [1])]
 (mkJ 1 [(0,.ptr 0 0),(1,msgV mk mf mto mn mv me ml mb)] 0 28)) [fr27] (colM n r p dl v ps ss)
def fr62 : SFrm := SFrm.mk 62 (some (oA 62 [1,1,1,0,0],[4])) (some 45) [Item.code (cA 62 [1,1,1,0,1]),Item.code (cA 62 [1,1,1,1])] (mkJ 1 [(0,.ptr 0 0)] 0 63)
def fr63 : SFrm := SFrm.mk 63 (some (oA 63 [1,1,1,0,0],[])) (some 19) [Item.code (cA 63 [1,1,1,0,1]),Item.code (cA 63 [1,1,1,1])] (mkJ 1 [(0,.ptr 0 0)] 0 28)
def fr27b : SFrm := SFrm.mk 27 (some (oA 27 [1,1,1,1,1,0],[3])) (some 65) [Item.code (cA 27 [1,1,1,1,1,1])] (mkJ 0 [(6,.ptr 2 0),(8,.ptr 0 0)] 0 71)
def seenC (K : SFrm) (n r p dl : Int) (v : SV) (ps ss : D) : Conf := Conf.mk (SFrm.mk 83 none none [Item.code (cA 83 [1,1,1,0,0]),Item.code (cA 83 [1,1,1,0,1]),Item.code (cA 83 [1,1,1,1])]
 (mkJ 2 [(0,.ptr 0 0),(5,.ptr 1 0)] 0 38)) [K,fr27b] [(0,.cells 111 [.int .i64 n,.int .i64 r,.int .i64 p,.int .i64 dl,.vec 3,.vec 4,v]),(1,.cells 156 [.int .i64 0,.int .i64 0]),
 (2,.cells 25 [.int .i64 0,.int .i64 0,.int .i64 0,.int .i64 0,.nils,.nils,.lb false]),(3,.arr 3 ps),(4,.arr 4 ss)]
def fr62l : SFrm := SFrm.mk 62 (some (oA 62 [1,1,1,0,0],[4])) (some 45) [Item.code (cA 62 [1,1,1,0,1]),Item.code (cA 62 [1,1,1,1])] (mkJ 1 [(0,.ptr 2 0)] 0 63)
def fr63l : SFrm := SFrm.mk 63 (some (oA 63 [1,1,1,0,0],[])) (some 19) [Item.code (cA 63 [1,1,1,0,1]),Item.code (cA 63 [1,1,1,1])] (mkJ 1 [(0,.ptr 2 0)] 0 28)
def fr27l : SFrm := SFrm.mk 27 (some (oA 27 [1,1,1,1,1,0],[3])) (some 65) [Item.code (cA 27 [1,1,1,1,1,1])] (mkJ 0 [(6,.ptr 3 0),(8,.ptr 2 0)] 0 71)
def seenL (K : SFrm) (n r p dl : Int) (v : SV) (ps ss : D) (x y j : Int) : Conf := Conf.mk (SFrm.mk 83 none none [Item.inLoop (cA 83 [1,1,1,0,1,0,0]),Item.inBlock 0,Item.code (cA 83 [1,1,1,1])]
 (mkJ 2 [(5,.ptr 0 0),(19,.vec 1),(20,.int .i64 ss.len),(21,.int .i64 j)] 0 38)) [K,fr27l] [(0,.cells 156 [.int .i64 x,.int .i64 y]),(1,.arr 4 ss),(2,.cells 111 [.int .i64 n,.int .i64 r,.int .i64 p,.int .i64 dl,.vec 4,.vec 1,v]),
 (3,.cells 25 [.int .i64 0,.int .i64 0,.int .i64 0,.int .i64 0,.nils,.nils,.lb false]),(4,.arr 3 ps)]
section
variable (x y n j now patience : Int) (a b d s wt hd : D) (frozen : Bool) (mr mp mt mi mu : Int) (mk mf mto mn mv me : Int) (ml mb : D) (nodes round phase deadline : Int) (valid : Bool)
theorem coll1_in : 
 let z1 : Tree := (.ret (SV.tup [.agg [.int .i64 nodes,.int .i64 round,.int .i64 phase,.int .i64 deadline,.dat d,.dat s,.bool valid],.nils]))
 let z2 : List SV := [.int .i64 mk,.int .i64 mf,.int .i64 mto,.int .i64 mn,.int .i64 mv,.int .i64 me,.dat ml,.dat mb]
 let z3 : List SV := [.int .i64 nodes,.int .i64 round,.int .i64 phase,.int .i64 deadline,.vec 2,.vec 3,.bool valid]
 let z4 : List SV := [.int .i64 0,.int .i64 0,.int .i64 0,.int .i64 0,.nils,.nils,.lb false]
 goS Try.prog ctM (fun _=>false) [(62,3),(63,3),(83,15)] 800 (entry Try.prog 27 [.agg [.int .i64 nodes,.int .i64 round,.int .i64 phase,.int .i64 deadline,.dat d,.dat s,.bool valid],.int .i64 now,.agg [.int .i64 mk,.int .i64 mf,.int .i64 mto,.int .i64 mn,.int .i64 mv,.int .i64 me,.dat ml,.dat mb]]) =
 Tree.need (D.Is Int d ∧ D.Is Bool s) (.br (checkCo (CoD.co (CoD.mk nodes round phase deadline d s valid)) != 0) z1 (.br (decide (phase = 0)) z1 (.br (decide (now ≥ deadline)) z1 (.br (decide (mf < 0)) z1
 (.br (decide (mf ≥ nodes)) z1 (.br (mn != round) z1 (.all fun hs=>.need (D.Is Int d ∧ D.len d ≤ 1048576) (.need (D.Is Bool s ∧ D.len s ≤ 1048576) (.br (decide (mk = 2)) (.leaf (Conf.mk (SFrm.mk 62 none none [Item.code
 (cA 62 [0]),Item.code (cA 62 [1])] (mkJ 1 [(0,.ptr 0 0),(1,.agg z2)] 0 63)) [SFrm.mk 27 (some (oA 27 [1,1,1,1,1,0],[3])) (some 65) [Item.code (cA 27 [1,1,1,1,1,1])] (mkJ 0 [(6,.ptr 1 0),
 (8,.ptr 0 0)] 0 71)] [(0,OBlk.cells 111 z3),(1,OBlk.cells 25 z4),(2,OBlk.arr 3 (D.slc (D.hd (hs 2 0)) 1 (D.rows d))),(3,OBlk.arr 4 (D.slc (D.hd (hs 5 0)) 1 (D.rows s)))])) (.br (decide (mk = 4))
 (.leaf (Conf.mk (SFrm.mk 63 none none [Item.code (cA 63 [0]),Item.code (cA 63 [1])] (mkJ 1 [(0,.ptr 0 0),(1,.agg z2)] 0 28)) [SFrm.mk 27 (some (oA 27 [1,1,1,1,1,0],[3])) (some 65) [Item.code
 (cA 27 [1,1,1,1,1,1])] (mkJ 0 [(6,.ptr 1 0),(8,.ptr 0 0)] 0 71)] [(0,OBlk.cells 111 z3),(1,OBlk.cells 25 z4),(2,OBlk.arr 3 (D.slc (D.hd (hs 2 0)) 1 (D.rows d))),(3,OBlk.arr 4 (D.slc (D.hd
 (hs 5 0)) 1 (D.rows s)))])) z1)))))))))) := by
 intros; kernel_rfl
theorem frz_go : 
 let z1 : Tree := (.ret (SV.tup [.agg [.int .i64 nodes,.int .i64 round,.int .i64 phase,.int .i64 deadline,.dat d,.dat s,.bool valid],.nils]))
 let z2 : Prop := (decide (mv > 4096) = false)
 let z3 : Prop := (decide (mv > 4096) = true)
 let z4 : Prop := (decide (mv < 0) = false)
 goS Try.prog ctM (fun _=>false) [(83,15)] 800 (frzC nodes round phase deadline (.bool valid) d s mk mf mto mn mv me ml mb) =
 Tree.all fun hs=>.br (phase != 1) (.need ((phase != 1) = true) (.need ((phase != 1) = true) (.need ((phase != 1) = true) (.need ((phase != 1) = true) z1)))) (.br (decide (mv < 0)) (.need ((phase != 1) = false)
 (.need ((phase != 1) = false) (.need ((phase != 1) = false) (.need ((phase != 1) = false) (.need (decide (mv < 0) = true) (.need (decide (mv < 0) = true) (.need (decide (mv < 0) = true) (.need (decide
 (mv < 0) = true) z1)))))))) (.br (decide (mv > 4096)) (.need ((phase != 1) = false) (.need ((phase != 1) = false) (.need ((phase != 1) = false) (.need ((phase != 1) = false) (.need z4 (.need z4 (.need z4
 (.need z4 (.need z3 (.need z3 (.need z3 (.need z3 (.need z3 (.need z3 (.need z3 (.need z3 (.need z3 (.need z3 z1)))))))))))))))))) (.need ((phase != 1) = false) (.need ((phase != 1) = false) (.need ((phase != 1) = false)
 (.need ((phase != 1) = false) (.need z4 (.need z4 (.need z4 (.need z4 (.need z2 (.need z2 (.need z2 (.need z2 (.need z2 (.need z2 (.need z2 (.need z2 (.need (0 ≤ mf ∧ mf < (↑(D.len s) : Int) ∧ D.sz s = 1)
 (.need z2 (.need (D.HasCell s (Int.toNat mf) 0 FT.bool ∧ D.sz s = 1) (.need z2 (.br (D.getBool s (Int.toNat mf) 0) z1 (.all fun hs=>.need (0 ≤ mf ∧ mf < (↑(D.len d) : Int) ∧ D.sz d = 1) (.need (Int.toNat mf < D.len d ∧ 1 ≤ D.sz d ∧ D.sz d = 1)
 (.need (0 ≤ mf ∧ mf < (↑(D.len s) : Int) ∧ D.sz s = 1) (.need (Int.toNat mf < D.len s ∧ 1 ≤ D.sz s ∧ D.sz s = 1) (.leaf (Conf.mk (SFrm.mk 83 none none [Item.code (cA 83 [1,1,1,0,0]),Item.code (cA 83 [1,1,1,0,1]),Item.code
 (cA 83 [1,1,1,1])] (mkJ 2 [(0,.ptr 0 0),(5,.ptr 1 0)] 0 38)) [SFrm.mk 62 (some (oA 62 [1,1,1,0,0],[4])) (some 45) [Item.code (cA 62 [1,1,1,0,1]),Item.code (cA 62 [1,1,1,1])] (mkJ 1 [(0,.ptr 0 0)] 0 63),SFrm.mk 27
 (some (oA 27 [1,1,1,1,1,0],[3])) (some 65) [Item.code (cA 27 [1,1,1,1,1,1])] (mkJ 0 [(6,.ptr 2 0),(8,.ptr 0 0)] 0 71)] [(0,OBlk.cells 111 [.int .i64 nodes,.int .i64 round,.int .i64 phase,.int .i64 deadline,.vec 3,.vec 4,.bool valid]),
 (1,OBlk.cells 156 [.int .i64 0,.int .i64 0]),(2,OBlk.cells 25 [.int .i64 0,.int .i64 0,.int .i64 0,.int .i64 0,.nils,.nils,.lb false]),(3,OBlk.arr 3 (D.setCells d (Int.toNat mf) 0 [D.int .i64 mv])),
 (4,OBlk.arr 4 (D.setCells s (Int.toNat mf) 0 [D.bool true]))]))))))))))))))))))))))))))))) := by
 intros; kernel_rfl
theorem thw_go : goS Try.prog ctM (fun _=>false) [(83,15)] 800 (thwC nodes round phase deadline (.bool valid) d s mk mf mto mn mv me ml mb) =
 Tree.br (phase != 2)
 (.ret
 (SV.tup
 [.agg
 [.int .i64 nodes,.int .i64 round,.int .i64 phase,.int .i64 deadline,
 .dat d,.dat s,.bool valid],
 .nils]))
 (.br (mv != 1)
 (.need (nodes ≤ 8)
 (.all fun hs =>
 .ret
 (SV.tup
 [.agg
 [.int .i64 nodes,.int .i64 round,.int .i64 0,.int .i64 deadline,
 .dat d,.dat s,.lb false],
 .dat (D.like (hs 0 0) (msgsTo nodes round 24))])))
 (.need (0 ≤ mf ∧ mf < (↑(D.len s) : Int) ∧ D.sz s = 1)
 (.need (Int.toNat mf < D.len s ∧ 1 ≤ D.sz s ∧ D.sz s = 1)
 (.leaf
 (Conf.mk
 (SFrm.mk 83 none none
 [Item.code (cA 83 [1,1,1,0,0]),Item.code (cA 83 [1,1,1,0,1]),
 Item.code (cA 83 [1,1,1,1])]
 (mkJ 2 [(0,.ptr 0 0),(5,.ptr 1 0)] 0 38))
 [SFrm.mk 63 (some (oA 63 [1,1,1,0,0],[])) (some 19)
 [Item.code (cA 63 [1,1,1,0,1]),Item.code (cA 63 [1,1,1,1])]
 (mkJ 1 [(0,.ptr 0 0)] 0 28),
 SFrm.mk 27 (some (oA 27 [1,1,1,1,1,0],[3])) (some 65)
 [Item.code (cA 27 [1,1,1,1,1,1])] (mkJ 0 [(6,.ptr 2 0),(8,.ptr 0 0)] 0 71)]
 [(0,
 OBlk.cells 111
 [.int .i64 nodes,.int .i64 round,.int .i64 phase,
 .int .i64 deadline,.vec 3,.vec 4,.bool valid]),
 (1,OBlk.cells 156 [.int .i64 0,.int .i64 0]),
 (2,
 OBlk.cells 25
 [.int .i64 0,.int .i64 0,.int .i64 0,.int .i64 0,.nils,
 .nils,.lb false]),
 (3,OBlk.arr 3 d),(4,OBlk.arr 4 (D.setCells s (Int.toNat mf) 0 [D.bool true]))]))))) := by kernel_rfl
theorem sn62_in : goS Try.prog ctM (fun _=>false) [(83,15)] 800 (seenC fr62 nodes round phase deadline (.bool valid) d s) =
 Tree.leaf
 (Conf.mk
 (SFrm.mk 83 none none
 [Item.inLoop (cA 83 [1,1,1,0,1,0,0]),Item.inBlock 0,Item.code (cA 83 [1,1,1,1])]
 (mkJ 2 [(5,.ptr 0 0),(19,.vec 1),(20,.int .i64 (↑(D.len s) : Int)),(21,.int .i64 0)]
 0 38))
 [SFrm.mk 62 (some (oA 62 [1,1,1,0,0],[4])) (some 45)
 [Item.code (cA 62 [1,1,1,0,1]),Item.code (cA 62 [1,1,1,1])]
 (mkJ 1 [(0,.ptr 2 0)] 0 63),
 SFrm.mk 27 (some (oA 27 [1,1,1,1,1,0],[3])) (some 65)
 [Item.code (cA 27 [1,1,1,1,1,1])] (mkJ 0 [(6,.ptr 3 0),(8,.ptr 2 0)] 0 71)]
 [(0,OBlk.cells 156 [.int .i64 0,.int .i64 0]),(1,OBlk.arr 4 s),
 (2,
 OBlk.cells 111
 [.int .i64 nodes,.int .i64 round,.int .i64 phase,.int .i64 deadline,
 .vec 4,.vec 1,.bool valid]),
 (3,
 OBlk.cells 25
 [.int .i64 0,.int .i64 0,.int .i64 0,.int .i64 0,.nils,.nils,
 .lb false]),
 (4,OBlk.arr 3 d)]) := by kernel_rfl
theorem sn63_in : goS Try.prog ctM (fun _=>false) [(83,15)] 800 (seenC fr63 nodes round phase deadline (.bool valid) d s) =
 Tree.leaf
 (Conf.mk
 (SFrm.mk 83 none none
 [Item.inLoop (cA 83 [1,1,1,0,1,0,0]),Item.inBlock 0,Item.code (cA 83 [1,1,1,1])]
 (mkJ 2 [(5,.ptr 0 0),(19,.vec 1),(20,.int .i64 (↑(D.len s) : Int)),(21,.int .i64 0)]
 0 38))
 [SFrm.mk 63 (some (oA 63 [1,1,1,0,0],[])) (some 19)
 [Item.code (cA 63 [1,1,1,0,1]),Item.code (cA 63 [1,1,1,1])]
 (mkJ 1 [(0,.ptr 2 0)] 0 28),
 SFrm.mk 27 (some (oA 27 [1,1,1,1,1,0],[3])) (some 65)
 [Item.code (cA 27 [1,1,1,1,1,1])] (mkJ 0 [(6,.ptr 3 0),(8,.ptr 2 0)] 0 71)]
 [(0,OBlk.cells 156 [.int .i64 0,.int .i64 0]),(1,OBlk.arr 4 s),
 (2,
 OBlk.cells 111
 [.int .i64 nodes,.int .i64 round,.int .i64 phase,.int .i64 deadline,
 .vec 4,.vec 1,.bool valid]),
 (3,
 OBlk.cells 25
 [.int .i64 0,.int .i64 0,.int .i64 0,.int .i64 0,.nils,.nils,
 .lb false]),
 (4,OBlk.arr 3 d)]) := by kernel_rfl
theorem sl62_go : goS Try.prog ctM (fun _=>false) [(83,15)] 800 (unroll (seenL fr62l nodes round phase deadline (.bool valid) d s x y j)) =
 Tree.br (decide (j < (↑(D.len s) : Int)))
 (.need (0 ≤ j ∧ j < (↑(D.len s) : Int) ∧ D.sz s = 1)
 (.need (D.HasCell s (Int.toNat j) 0 FT.bool ∧ D.sz s = 1)
 (.br (D.getBool s (Int.toNat j) 0)
 (.need ((0 : Int) ≤ 1 ∧ 1 < (↑2 : Int))
 (.need ((0 : Int) ≤ 1 ∧ 1 < (↑2 : Int))
 (.leaf
 (Conf.mk
 (SFrm.mk 83 none none
 [Item.inLoop (cA 83 [1,1,1,0,1,0,0]),Item.inBlock 0,
 Item.code (cA 83 [1,1,1,1])]
 (mkJ 2
 [(5,.ptr 0 0),(19,.vec 1),(20,.int .i64 (↑(D.len s) : Int)),
 (21,.int .i64 (IntKind.wrap .i64 (j + 1)))]
 0 38))
 [SFrm.mk 62 (some (oA 62 [1,1,1,0,0],[4])) (some 45)
 [Item.code (cA 62 [1,1,1,0,1]),Item.code (cA 62 [1,1,1,1])]
 (mkJ 1 [(0,.ptr 2 0)] 0 63),
 SFrm.mk 27 (some (oA 27 [1,1,1,1,1,0],[3])) (some 65)
 [Item.code (cA 27 [1,1,1,1,1,1])] (mkJ 0 [(6,.ptr 3 0),(8,.ptr 2 0)] 0 71)]
 [(0,OBlk.cells 156 [.int .i64 x,.int .i64 (IntKind.wrap .i64 (y + 1))]),
 (1,OBlk.arr 4 s),
 (2,
 OBlk.cells 111
 [.int .i64 nodes,.int .i64 round,.int .i64 phase,
 .int .i64 deadline,.vec 4,.vec 1,.bool valid]),
 (3,
 OBlk.cells 25
 [.int .i64 0,.int .i64 0,.int .i64 0,.int .i64 0,.nils,
 .nils,.lb false]),
 (4,OBlk.arr 3 d)]))))
 (.need ((0 : Int) ≤ 0 ∧ 0 < (↑2 : Int))
 (.need ((0 : Int) ≤ 0 ∧ 0 < (↑2 : Int))
 (.leaf
 (Conf.mk
 (SFrm.mk 83 none none
 [Item.inLoop (cA 83 [1,1,1,0,1,0,0]),Item.inBlock 0,
 Item.code (cA 83 [1,1,1,1])]
 (mkJ 2
 [(5,.ptr 0 0),(19,.vec 1),(20,.int .i64 (↑(D.len s) : Int)),
 (21,.int .i64 (IntKind.wrap .i64 (j + 1)))]
 0 38))
 [SFrm.mk 62 (some (oA 62 [1,1,1,0,0],[4])) (some 45)
 [Item.code (cA 62 [1,1,1,0,1]),Item.code (cA 62 [1,1,1,1])]
 (mkJ 1 [(0,.ptr 2 0)] 0 63),
 SFrm.mk 27 (some (oA 27 [1,1,1,1,1,0],[3])) (some 65)
 [Item.code (cA 27 [1,1,1,1,1,1])] (mkJ 0 [(6,.ptr 3 0),(8,.ptr 2 0)] 0 71)]
 [(0,OBlk.cells 156 [.int .i64 (IntKind.wrap .i64 (x + 1)),.int .i64 y]),
 (1,OBlk.arr 4 s),
 (2,
 OBlk.cells 111
 [.int .i64 nodes,.int .i64 round,.int .i64 phase,
 .int .i64 deadline,.vec 4,.vec 1,.bool valid]),
 (3,
 OBlk.cells 25
 [.int .i64 0,.int .i64 0,.int .i64 0,.int .i64 0,.nils,
 .nils,.lb false]),
 (4,OBlk.arr 3 d)])))))))
 (.need ((0 : Int) ≤ 0 ∧ 0 < (↑2 : Int))
 (.br (!decide (x = 0))
 (.ret
 (SV.tup
 [.agg
 [.int .i64 nodes,.int .i64 round,.int .i64 phase,
 .int .i64 deadline,.dat d,.dat s,.bool valid],
 .nils]))
 (.all fun hs =>
 .need (0 ≤ nodes ∧ nodes = nodes ∧ (↑1 : Int) * nodes ≤ 281474976710656 ∧ nodes ≤ 9223372036854775807)
 (.need (nodes ≤ 8)
 (.all fun hs_1 =>
 .ret
 (SV.tup
 [.agg
 [.int .i64 nodes,.int .i64 round,.int .i64 2,
 .int .i64 deadline,.dat d,
 .dat (D.slc (D.hd (hs 7 0)) 1 (List.replicate (Int.toNat nodes) [D.bool false])),
 .bool valid],
 .dat (D.like (hs_1 0 0) (msgsTo nodes round 3))])))))) := by kernel_rfl
theorem sl63_go : goS Try.prog ctM (fun _=>false) [(83,15)] 800 (unroll (seenL fr63l nodes round phase deadline (.bool valid) d s x y j)) =
 Tree.br (decide (j < (↑(D.len s) : Int)))
 (.need (0 ≤ j ∧ j < (↑(D.len s) : Int) ∧ D.sz s = 1)
 (.need (D.HasCell s (Int.toNat j) 0 FT.bool ∧ D.sz s = 1)
 (.br (D.getBool s (Int.toNat j) 0)
 (.need ((0 : Int) ≤ 1 ∧ 1 < (↑2 : Int))
 (.need ((0 : Int) ≤ 1 ∧ 1 < (↑2 : Int))
 (.leaf
 (Conf.mk
 (SFrm.mk 83 none none
 [Item.inLoop (cA 83 [1,1,1,0,1,0,0]),Item.inBlock 0,
 Item.code (cA 83 [1,1,1,1])]
 (mkJ 2
 [(5,.ptr 0 0),(19,.vec 1),(20,.int .i64 (↑(D.len s) : Int)),
 (21,.int .i64 (IntKind.wrap .i64 (j + 1)))]
 0 38))
 [SFrm.mk 63 (some (oA 63 [1,1,1,0,0],[])) (some 19)
 [Item.code (cA 63 [1,1,1,0,1]),Item.code (cA 63 [1,1,1,1])]
 (mkJ 1 [(0,.ptr 2 0)] 0 28),
 SFrm.mk 27 (some (oA 27 [1,1,1,1,1,0],[3])) (some 65)
 [Item.code (cA 27 [1,1,1,1,1,1])] (mkJ 0 [(6,.ptr 3 0),(8,.ptr 2 0)] 0 71)]
 [(0,OBlk.cells 156 [.int .i64 x,.int .i64 (IntKind.wrap .i64 (y + 1))]),
 (1,OBlk.arr 4 s),
 (2,
 OBlk.cells 111
 [.int .i64 nodes,.int .i64 round,.int .i64 phase,
 .int .i64 deadline,.vec 4,.vec 1,.bool valid]),
 (3,
 OBlk.cells 25
 [.int .i64 0,.int .i64 0,.int .i64 0,.int .i64 0,.nils,
 .nils,.lb false]),
 (4,OBlk.arr 3 d)]))))
 (.need ((0 : Int) ≤ 0 ∧ 0 < (↑2 : Int))
 (.need ((0 : Int) ≤ 0 ∧ 0 < (↑2 : Int))
 (.leaf
 (Conf.mk
 (SFrm.mk 83 none none
 [Item.inLoop (cA 83 [1,1,1,0,1,0,0]),Item.inBlock 0,
 Item.code (cA 83 [1,1,1,1])]
 (mkJ 2
 [(5,.ptr 0 0),(19,.vec 1),(20,.int .i64 (↑(D.len s) : Int)),
 (21,.int .i64 (IntKind.wrap .i64 (j + 1)))]
 0 38))
 [SFrm.mk 63 (some (oA 63 [1,1,1,0,0],[])) (some 19)
 [Item.code (cA 63 [1,1,1,0,1]),Item.code (cA 63 [1,1,1,1])]
 (mkJ 1 [(0,.ptr 2 0)] 0 28),
 SFrm.mk 27 (some (oA 27 [1,1,1,1,1,0],[3])) (some 65)
 [Item.code (cA 27 [1,1,1,1,1,1])] (mkJ 0 [(6,.ptr 3 0),(8,.ptr 2 0)] 0 71)]
 [(0,OBlk.cells 156 [.int .i64 (IntKind.wrap .i64 (x + 1)),.int .i64 y]),
 (1,OBlk.arr 4 s),
 (2,
 OBlk.cells 111
 [.int .i64 nodes,.int .i64 round,.int .i64 phase,
 .int .i64 deadline,.vec 4,.vec 1,.bool valid]),
 (3,
 OBlk.cells 25
 [.int .i64 0,.int .i64 0,.int .i64 0,.int .i64 0,.nils,
 .nils,.lb false]),
 (4,OBlk.arr 3 d)])))))))
 (.need ((0 : Int) ≤ 0 ∧ 0 < (↑2 : Int))
 (.br (decide (x = 0))
 (.ret
 (SV.tup
 [.agg
 [.int .i64 nodes,.int .i64 round,.int .i64 0,.int .i64 deadline,
 .dat d,.dat s,.lb true],
 .nils]))
 (.ret
 (SV.tup
 [.agg
 [.int .i64 nodes,.int .i64 round,.int .i64 phase,
 .int .i64 deadline,.dat d,.dat s,.bool valid],
 .nils])))) := by kernel_rfl
end
section
variable (x y n j now patience : Int) (a b d s wt hd : D) (frozen : Bool) (mr mp mt mi mu : Int) (mk mf mto mn mv me : Int) (ml mb : D) (nodes round phase deadline : Int) (valid : Bool)
theorem coll2_in : 
 let z1 : Tree := (.ret (SV.tup [.agg [.int .i64 nodes,.int .i64 round,.int .i64 phase,.int .i64 deadline,.dat d,.dat s,.bool valid],.nils]))
 exec Try.prog ctM 800 (entry Try.prog 28 [.agg [.int .i64 nodes,.int .i64 round,.int .i64 phase,.int .i64 deadline,.dat d,.dat s,.bool valid],.int .i64 now,.agg [.int .i64 mk,.int .i64 mf,.int .i64 mto,.int .i64 mn,.int .i64 mv,.int .i64 me,.dat ml,.dat mb]]) =
 Tree.need (D.Is Int d ∧ D.Is Bool s) (.br (checkCo (CoD.co (CoD.mk nodes round phase deadline d s valid)) != 0) z1 (.br (decide (phase = 0)) z1 (.br (decide (now ≥ deadline)) z1 (.br (decide (mf < 0)) z1
 (.br (decide (mf ≥ nodes)) z1 (.br (mn != round) z1 (.all fun hs=>.need (D.sz (D.slc (D.hd (hs 0 0)) 1 []) = 1 ∧ D.Fits d 1 ∧ (D.len (D.slc (D.hd (hs 0 0)) 1 []) + D.len d) * 8 ≤ 140737488355328 ∧ D.len
 (D.slc (D.hd (hs 0 0)) 1 []) + D.len d ≤ 9223372036854775807) (.all fun hs_1=>.all fun hs_2=>.need (D.sz (D.slc (D.hd (hs_2 0 0)) 1 []) = 1 ∧ D.Fits s 1 ∧ (D.len (D.slc (D.hd (hs_2 0 0)) 1 []) + D.len s) * 1 ≤ 140737488355328 ∧ D.len
 (D.slc (D.hd (hs_2 0 0)) 1 []) + D.len s ≤ 9223372036854775807) (.all fun hs_3=>.br (decide (phase = 1)) (.br (decide (mk = 2)) (.br (decide (mv ≥ 0)) (.br (decide (mv ≤ 4096)) (.need (0 ≤ mf ∧ mf <
 (↑(D.len s) : Int) ∧ D.sz s = 1) (.need (D.HasCell s (Int.toNat mf) 0 FT.bool) (.br (!D.getBool s (Int.toNat mf) 0) (.need (0 ≤ mf ∧ mf < (↑(D.len (D.slc (D.hd (hs_1 0 0)) 1 (List.append (D.rows (D.slc
 (D.hd (hs 0 0)) 1 [])) (D.rows d)))) : Int) ∧ D.sz (D.slc (D.hd (hs_1 0 0)) 1 (List.append (D.rows (D.slc (D.hd (hs 0 0)) 1 [])) (D.rows d))) = 1) (.need (Int.toNat mf < D.len (D.slc (D.hd (hs_1 0 0)) 1
 (List.append (D.rows (D.slc (D.hd (hs 0 0)) 1 [])) (D.rows d))) ∧ 1 ≤ D.sz (D.slc (D.hd (hs_1 0 0)) 1 (List.append (D.rows (D.slc (D.hd (hs 0 0)) 1 [])) (D.rows d))) ∧ D.sz (D.slc (D.hd (hs_1 0 0)) 1 (List.append
 (D.rows (D.slc (D.hd (hs 0 0)) 1 [])) (D.rows d))) = 1) (.need (0 ≤ mf ∧ mf < (↑(D.len (D.slc (D.hd (hs_3 0 0)) 1 (List.append (D.rows (D.slc (D.hd (hs_2 0 0)) 1 [])) (D.rows s)))) : Int) ∧ D.sz (D.slc
 (D.hd (hs_3 0 0)) 1 (List.append (D.rows (D.slc (D.hd (hs_2 0 0)) 1 [])) (D.rows s))) = 1) (.need (Int.toNat mf < D.len (D.slc (D.hd (hs_3 0 0)) 1 (List.append (D.rows (D.slc (D.hd (hs_2 0 0)) 1 [])) (D.rows s))) ∧ 1 ≤ D.sz
 (D.slc (D.hd (hs_3 0 0)) 1 (List.append (D.rows (D.slc (D.hd (hs_2 0 0)) 1 [])) (D.rows s))) ∧ D.sz (D.slc (D.hd (hs_3 0 0)) 1 (List.append (D.rows (D.slc (D.hd (hs_2 0 0)) 1 [])) (D.rows s))) = 1) (.need
 (D.Is Bool (D.setCells (D.slc (D.hd (hs_3 0 0)) 1 (List.append (D.rows (D.slc (D.hd (hs_2 0 0)) 1 [])) (D.rows s))) (Int.toNat mf) 0 [D.bool true]) ∧ D.len (D.setCells (D.slc (D.hd (hs_3 0 0)) 1 (List.append
 (D.rows (D.slc (D.hd (hs_2 0 0)) 1 [])) (D.rows s))) (Int.toNat mf) 0 [D.bool true]) ≤ 1048576) (.br (List.all (D.to Bool (D.setCells (D.slc (D.hd (hs_3 0 0)) 1 (List.append (D.rows (D.slc (D.hd (hs_2 0 0)) 1 []))
 (D.rows s))) (Int.toNat mf) 0 [D.bool true])) id) (.all fun hs_4=>.need (0 ≤ nodes ∧ nodes = nodes ∧ (↑1 : Int) * nodes ≤ 281474976710656 ∧ nodes ≤ 9223372036854775807) (.all fun hs_5=>.need (nodes ≤ 8)
 (.ret (SV.tup [.agg [.int .i64 nodes,.int .i64 round,.int .i64 2,.int .i64 deadline,.dat (D.setCells (D.slc (D.hd (hs_1 0 0)) 1 (List.append (D.rows (D.slc (D.hd (hs 0 0)) 1 [])) (D.rows d))) (Int.toNat mf) 0 [D.int .i64 mv]),.dat
 (D.slc (D.hd (hs_4 2 0)) 1 (List.replicate (Int.toNat nodes) [D.bool false])),.bool valid],.dat (D.like (hs_5 2 0) (msgsTo nodes round 3))])))) (.ret (SV.tup [.agg [.int .i64 nodes,.int .i64 round,.int .i64 phase,.int .i64 deadline,.dat
 (D.setCells (D.slc (D.hd (hs_1 0 0)) 1 (List.append (D.rows (D.slc (D.hd (hs 0 0)) 1 [])) (D.rows d))) (Int.toNat mf) 0 [D.int .i64 mv]),.dat (D.setCells (D.slc (D.hd (hs_3 0 0)) 1 (List.append (D.rows
 (D.slc (D.hd (hs_2 0 0)) 1 [])) (D.rows s))) (Int.toNat mf) 0 [D.bool true]),.bool valid],.nils])))))))) (.br (decide (phase = 2)) (.br (decide (mk = 4)) (.br (mv != 1) (.need (D.Is Int (D.slc (D.hd
 (hs_1 0 0)) 1 (List.append (D.rows (D.slc (D.hd (hs 0 0)) 1 [])) (D.rows d))) ∧ D.Is Bool (D.slc (D.hd (hs_3 0 0)) 1 (List.append (D.rows (D.slc (D.hd (hs_2 0 0)) 1 [])) (D.rows s))) ∧ nodes ≤ 8) (.all fun hs_4=>.ret
 (SV.tup [.agg [.int .i64 nodes,.int .i64 round,.int .i64 0,.int .i64 deadline,.dat (D.like (hs_4 0 0) (D.to Int (D.slc (D.hd (hs_1 0 0)) 1 (List.append (D.rows (D.slc (D.hd (hs 0 0)) 1 [])) (D.rows d))))),.dat
 (D.like (hs_4 0 1) (D.to Bool (D.slc (D.hd (hs_3 0 0)) 1 (List.append (D.rows (D.slc (D.hd (hs_2 0 0)) 1 [])) (D.rows s))))),.bool false],.dat (D.like (hs_4 0 2) (msgsTo nodes round 24))]))) (.need (0 ≤ mf ∧ mf <
 (↑(D.len (D.slc (D.hd (hs_3 0 0)) 1 (List.append (D.rows (D.slc (D.hd (hs_2 0 0)) 1 [])) (D.rows s)))) : Int) ∧ D.sz (D.slc (D.hd (hs_3 0 0)) 1 (List.append (D.rows (D.slc (D.hd (hs_2 0 0)) 1 [])) (D.rows s))) = 1)
 (.need (Int.toNat mf < D.len (D.slc (D.hd (hs_3 0 0)) 1 (List.append (D.rows (D.slc (D.hd (hs_2 0 0)) 1 [])) (D.rows s))) ∧ 1 ≤ D.sz (D.slc (D.hd (hs_3 0 0)) 1 (List.append (D.rows (D.slc (D.hd (hs_2 0 0)) 1 []))
 (D.rows s))) ∧ D.sz (D.slc (D.hd (hs_3 0 0)) 1 (List.append (D.rows (D.slc (D.hd (hs_2 0 0)) 1 [])) (D.rows s))) = 1) (.need (D.Is Bool (D.setCells (D.slc (D.hd (hs_3 0 0)) 1 (List.append (D.rows (D.slc
 (D.hd (hs_2 0 0)) 1 [])) (D.rows s))) (Int.toNat mf) 0 [D.bool true]) ∧ D.len (D.setCells (D.slc (D.hd (hs_3 0 0)) 1 (List.append (D.rows (D.slc (D.hd (hs_2 0 0)) 1 [])) (D.rows s))) (Int.toNat mf) 0 [D.bool true]) ≤ 1048576)
 (.br (List.all (D.to Bool (D.setCells (D.slc (D.hd (hs_3 0 0)) 1 (List.append (D.rows (D.slc (D.hd (hs_2 0 0)) 1 [])) (D.rows s))) (Int.toNat mf) 0 [D.bool true])) id) (.ret (SV.tup [.agg [.int .i64 nodes,.int .i64 round,.int .i64 0,.int .i64 deadline,.dat
 (D.slc (D.hd (hs_1 0 0)) 1 (List.append (D.rows (D.slc (D.hd (hs 0 0)) 1 [])) (D.rows d))),.dat (D.setCells (D.slc (D.hd (hs_3 0 0)) 1 (List.append (D.rows (D.slc (D.hd (hs_2 0 0)) 1 [])) (D.rows s)))
 (Int.toNat mf) 0 [D.bool true]),.lb true],.nils])) (.ret (SV.tup [.agg [.int .i64 nodes,.int .i64 round,.int .i64 phase,.int .i64 deadline,.dat (D.slc (D.hd (hs_1 0 0)) 1 (List.append (D.rows (D.slc
 (D.hd (hs 0 0)) 1 [])) (D.rows d))),.dat (D.setCells (D.slc (D.hd (hs_3 0 0)) 1 (List.append (D.rows (D.slc (D.hd (hs_2 0 0)) 1 [])) (D.rows s))) (Int.toNat mf) 0 [D.bool true]),.bool valid],.nils]))))))) z1) z1))))
 (.br (decide (phase = 2)) (.br (decide (mk = 4)) (.br (mv != 1) (.need (D.Is Int (D.slc (D.hd (hs_1 0 0)) 1 (List.append (D.rows (D.slc (D.hd (hs 0 0)) 1 [])) (D.rows d))) ∧ D.Is Bool (D.slc (D.hd (hs_3 0 0)) 1
 (List.append (D.rows (D.slc (D.hd (hs_2 0 0)) 1 [])) (D.rows s))) ∧ nodes ≤ 8) (.all fun hs_4=>.ret (SV.tup [.agg [.int .i64 nodes,.int .i64 round,.int .i64 0,.int .i64 deadline,.dat (D.like (hs_4 0 0)
 (D.to Int (D.slc (D.hd (hs_1 0 0)) 1 (List.append (D.rows (D.slc (D.hd (hs 0 0)) 1 [])) (D.rows d))))),.dat (D.like (hs_4 0 1) (D.to Bool (D.slc (D.hd (hs_3 0 0)) 1 (List.append (D.rows (D.slc (D.hd (hs_2 0 0)) 1 []))
 (D.rows s))))),.bool false],.dat (D.like (hs_4 0 2) (msgsTo nodes round 24))]))) (.need (0 ≤ mf ∧ mf < (↑(D.len (D.slc (D.hd (hs_3 0 0)) 1 (List.append (D.rows (D.slc (D.hd (hs_2 0 0)) 1 [])) (D.rows s)))) : Int) ∧ D.sz
 (D.slc (D.hd (hs_3 0 0)) 1 (List.append (D.rows (D.slc (D.hd (hs_2 0 0)) 1 [])) (D.rows s))) = 1) (.need (Int.toNat mf < D.len (D.slc (D.hd (hs_3 0 0)) 1 (List.append (D.rows (D.slc (D.hd (hs_2 0 0)) 1 []))
 (D.rows s))) ∧ 1 ≤ D.sz (D.slc (D.hd (hs_3 0 0)) 1 (List.append (D.rows (D.slc (D.hd (hs_2 0 0)) 1 [])) (D.rows s))) ∧ D.sz (D.slc (D.hd (hs_3 0 0)) 1 (List.append (D.rows (D.slc (D.hd (hs_2 0 0)) 1 []))
 (D.rows s))) = 1) (.need (D.Is Bool (D.setCells (D.slc (D.hd (hs_3 0 0)) 1 (List.append (D.rows (D.slc (D.hd (hs_2 0 0)) 1 [])) (D.rows s))) (Int.toNat mf) 0 [D.bool true]) ∧ D.len (D.setCells (D.slc (D.hd
 (hs_3 0 0)) 1 (List.append (D.rows (D.slc (D.hd (hs_2 0 0)) 1 [])) (D.rows s))) (Int.toNat mf) 0 [D.bool true]) ≤ 1048576) (.br (List.all (D.to Bool (D.setCells (D.slc (D.hd (hs_3 0 0)) 1 (List.append
 (D.rows (D.slc (D.hd (hs_2 0 0)) 1 [])) (D.rows s))) (Int.toNat mf) 0 [D.bool true])) id) (.ret (SV.tup [.agg [.int .i64 nodes,.int .i64 round,.int .i64 0,.int .i64 deadline,.dat (D.slc (D.hd (hs_1 0 0)) 1
 (List.append (D.rows (D.slc (D.hd (hs 0 0)) 1 [])) (D.rows d))),.dat (D.setCells (D.slc (D.hd (hs_3 0 0)) 1 (List.append (D.rows (D.slc (D.hd (hs_2 0 0)) 1 [])) (D.rows s))) (Int.toNat mf) 0 [D.bool true]),.lb true],.nils]))
 (.ret (SV.tup [.agg [.int .i64 nodes,.int .i64 round,.int .i64 phase,.int .i64 deadline,.dat (D.slc (D.hd (hs_1 0 0)) 1 (List.append (D.rows (D.slc (D.hd (hs 0 0)) 1 [])) (D.rows d))),.dat (D.setCells
 (D.slc (D.hd (hs_3 0 0)) 1 (List.append (D.rows (D.slc (D.hd (hs_2 0 0)) 1 [])) (D.rows s))) (Int.toNat mf) 0 [D.bool true]),.bool valid],.nils]))))))) z1) z1)) (.br (decide (phase = 2)) (.br (decide
 (mk = 4)) (.br (mv != 1) (.need (D.Is Int (D.slc (D.hd (hs_1 0 0)) 1 (List.append (D.rows (D.slc (D.hd (hs 0 0)) 1 [])) (D.rows d))) ∧ D.Is Bool (D.slc (D.hd (hs_3 0 0)) 1 (List.append (D.rows (D.slc (D.hd
 (hs_2 0 0)) 1 [])) (D.rows s))) ∧ nodes ≤ 8) (.all fun hs_4=>.ret (SV.tup [.agg [.int .i64 nodes,.int .i64 round,.int .i64 0,.int .i64 deadline,.dat (D.like (hs_4 0 0) (D.to Int (D.slc (D.hd (hs_1 0 0)) 1
 (List.append (D.rows (D.slc (D.hd (hs 0 0)) 1 [])) (D.rows d))))),.dat (D.like (hs_4 0 1) (D.to Bool (D.slc (D.hd (hs_3 0 0)) 1 (List.append (D.rows (D.slc (D.hd (hs_2 0 0)) 1 [])) (D.rows s))))),.bool false],.dat
 (D.like (hs_4 0 2) (msgsTo nodes round 24))]))) (.need (0 ≤ mf ∧ mf < (↑(D.len (D.slc (D.hd (hs_3 0 0)) 1 (List.append (D.rows (D.slc (D.hd (hs_2 0 0)) 1 [])) (D.rows s)))) : Int) ∧ D.sz (D.slc (D.hd (hs_3 0 0)) 1
 (List.append (D.rows (D.slc (D.hd (hs_2 0 0)) 1 [])) (D.rows s))) = 1) (.need (Int.toNat mf < D.len (D.slc (D.hd (hs_3 0 0)) 1 (List.append (D.rows (D.slc (D.hd (hs_2 0 0)) 1 [])) (D.rows s))) ∧ 1 ≤ D.sz
 (D.slc (D.hd (hs_3 0 0)) 1 (List.append (D.rows (D.slc (D.hd (hs_2 0 0)) 1 [])) (D.rows s))) ∧ D.sz (D.slc (D.hd (hs_3 0 0)) 1 (List.append (D.rows (D.slc (D.hd (hs_2 0 0)) 1 [])) (D.rows s))) = 1) (.need
 (D.Is Bool (D.setCells (D.slc (D.hd (hs_3 0 0)) 1 (List.append (D.rows (D.slc (D.hd (hs_2 0 0)) 1 [])) (D.rows s))) (Int.toNat mf) 0 [D.bool true]) ∧ D.len (D.setCells (D.slc (D.hd (hs_3 0 0)) 1 (List.append
 (D.rows (D.slc (D.hd (hs_2 0 0)) 1 [])) (D.rows s))) (Int.toNat mf) 0 [D.bool true]) ≤ 1048576) (.br (List.all (D.to Bool (D.setCells (D.slc (D.hd (hs_3 0 0)) 1 (List.append (D.rows (D.slc (D.hd (hs_2 0 0)) 1 []))
 (D.rows s))) (Int.toNat mf) 0 [D.bool true])) id) (.ret (SV.tup [.agg [.int .i64 nodes,.int .i64 round,.int .i64 0,.int .i64 deadline,.dat (D.slc (D.hd (hs_1 0 0)) 1 (List.append (D.rows (D.slc (D.hd
 (hs 0 0)) 1 [])) (D.rows d))),.dat (D.setCells (D.slc (D.hd (hs_3 0 0)) 1 (List.append (D.rows (D.slc (D.hd (hs_2 0 0)) 1 [])) (D.rows s))) (Int.toNat mf) 0 [D.bool true]),.lb true],.nils])) (.ret (SV.tup [.agg [.int .i64 nodes,.int .i64 round,.int .i64 phase,.int .i64 deadline,.dat
 (D.slc (D.hd (hs_1 0 0)) 1 (List.append (D.rows (D.slc (D.hd (hs 0 0)) 1 [])) (D.rows d))),.dat (D.setCells (D.slc (D.hd (hs_3 0 0)) 1 (List.append (D.rows (D.slc (D.hd (hs_2 0 0)) 1 [])) (D.rows s)))
 (Int.toNat mf) 0 [D.bool true]),.bool valid],.nils]))))))) z1) z1)) (.br (decide (phase = 2)) (.br (decide (mk = 4)) (.br (mv != 1) (.need (D.Is Int (D.slc (D.hd (hs_1 0 0)) 1 (List.append (D.rows (D.slc
 (D.hd (hs 0 0)) 1 [])) (D.rows d))) ∧ D.Is Bool (D.slc (D.hd (hs_3 0 0)) 1 (List.append (D.rows (D.slc (D.hd (hs_2 0 0)) 1 [])) (D.rows s))) ∧ nodes ≤ 8) (.all fun hs_4=>.ret (SV.tup [.agg [.int .i64 nodes,.int .i64 round,.int .i64 0,.int .i64 deadline,.dat
 (D.like (hs_4 0 0) (D.to Int (D.slc (D.hd (hs_1 0 0)) 1 (List.append (D.rows (D.slc (D.hd (hs 0 0)) 1 [])) (D.rows d))))),.dat (D.like (hs_4 0 1) (D.to Bool (D.slc (D.hd (hs_3 0 0)) 1 (List.append (D.rows
 (D.slc (D.hd (hs_2 0 0)) 1 [])) (D.rows s))))),.bool false],.dat (D.like (hs_4 0 2) (msgsTo nodes round 24))]))) (.need (0 ≤ mf ∧ mf < (↑(D.len (D.slc (D.hd (hs_3 0 0)) 1 (List.append (D.rows (D.slc
 (D.hd (hs_2 0 0)) 1 [])) (D.rows s)))) : Int) ∧ D.sz (D.slc (D.hd (hs_3 0 0)) 1 (List.append (D.rows (D.slc (D.hd (hs_2 0 0)) 1 [])) (D.rows s))) = 1) (.need (Int.toNat mf < D.len (D.slc (D.hd (hs_3 0 0)) 1
 (List.append (D.rows (D.slc (D.hd (hs_2 0 0)) 1 [])) (D.rows s))) ∧ 1 ≤ D.sz (D.slc (D.hd (hs_3 0 0)) 1 (List.append (D.rows (D.slc (D.hd (hs_2 0 0)) 1 [])) (D.rows s))) ∧ D.sz (D.slc (D.hd (hs_3 0 0)) 1
 (List.append (D.rows (D.slc (D.hd (hs_2 0 0)) 1 [])) (D.rows s))) = 1) (.need (D.Is Bool (D.setCells (D.slc (D.hd (hs_3 0 0)) 1 (List.append (D.rows (D.slc (D.hd (hs_2 0 0)) 1 [])) (D.rows s))) (Int.toNat mf) 0 [D.bool true]) ∧ D.len
 (D.setCells (D.slc (D.hd (hs_3 0 0)) 1 (List.append (D.rows (D.slc (D.hd (hs_2 0 0)) 1 [])) (D.rows s))) (Int.toNat mf) 0 [D.bool true]) ≤ 1048576) (.br (List.all (D.to Bool (D.setCells (D.slc (D.hd (hs_3 0 0)) 1
 (List.append (D.rows (D.slc (D.hd (hs_2 0 0)) 1 [])) (D.rows s))) (Int.toNat mf) 0 [D.bool true])) id) (.ret (SV.tup [.agg [.int .i64 nodes,.int .i64 round,.int .i64 0,.int .i64 deadline,.dat (D.slc
 (D.hd (hs_1 0 0)) 1 (List.append (D.rows (D.slc (D.hd (hs 0 0)) 1 [])) (D.rows d))),.dat (D.setCells (D.slc (D.hd (hs_3 0 0)) 1 (List.append (D.rows (D.slc (D.hd (hs_2 0 0)) 1 [])) (D.rows s))) (Int.toNat mf) 0 [D.bool true]),.lb true],.nils]))
 (.ret (SV.tup [.agg [.int .i64 nodes,.int .i64 round,.int .i64 phase,.int .i64 deadline,.dat (D.slc (D.hd (hs_1 0 0)) 1 (List.append (D.rows (D.slc (D.hd (hs 0 0)) 1 [])) (D.rows d))),.dat (D.setCells
 (D.slc (D.hd (hs_3 0 0)) 1 (List.append (D.rows (D.slc (D.hd (hs_2 0 0)) 1 [])) (D.rows s))) (Int.toNat mf) 0 [D.bool true]),.bool valid],.nils]))))))) z1) z1)) (.br (decide (phase = 2)) (.br (decide
 (mk = 4)) (.br (mv != 1) (.need (D.Is Int (D.slc (D.hd (hs_1 0 0)) 1 (List.append (D.rows (D.slc (D.hd (hs 0 0)) 1 [])) (D.rows d))) ∧ D.Is Bool (D.slc (D.hd (hs_3 0 0)) 1 (List.append (D.rows (D.slc (D.hd
 (hs_2 0 0)) 1 [])) (D.rows s))) ∧ nodes ≤ 8) (.all fun hs_4=>.ret (SV.tup [.agg [.int .i64 nodes,.int .i64 round,.int .i64 0,.int .i64 deadline,.dat (D.like (hs_4 0 0) (D.to Int (D.slc (D.hd (hs_1 0 0)) 1
 (List.append (D.rows (D.slc (D.hd (hs 0 0)) 1 [])) (D.rows d))))),.dat (D.like (hs_4 0 1) (D.to Bool (D.slc (D.hd (hs_3 0 0)) 1 (List.append (D.rows (D.slc (D.hd (hs_2 0 0)) 1 [])) (D.rows s))))),.bool false],.dat
 (D.like (hs_4 0 2) (msgsTo nodes round 24))]))) (.need (0 ≤ mf ∧ mf < (↑(D.len (D.slc (D.hd (hs_3 0 0)) 1 (List.append (D.rows (D.slc (D.hd (hs_2 0 0)) 1 [])) (D.rows s)))) : Int) ∧ D.sz (D.slc (D.hd (hs_3 0 0)) 1
 (List.append (D.rows (D.slc (D.hd (hs_2 0 0)) 1 [])) (D.rows s))) = 1) (.need (Int.toNat mf < D.len (D.slc (D.hd (hs_3 0 0)) 1 (List.append (D.rows (D.slc (D.hd (hs_2 0 0)) 1 [])) (D.rows s))) ∧ 1 ≤ D.sz
 (D.slc (D.hd (hs_3 0 0)) 1 (List.append (D.rows (D.slc (D.hd (hs_2 0 0)) 1 [])) (D.rows s))) ∧ D.sz (D.slc (D.hd (hs_3 0 0)) 1 (List.append (D.rows (D.slc (D.hd (hs_2 0 0)) 1 [])) (D.rows s))) = 1) (.need
 (D.Is Bool (D.setCells (D.slc (D.hd (hs_3 0 0)) 1 (List.append (D.rows (D.slc (D.hd (hs_2 0 0)) 1 [])) (D.rows s))) (Int.toNat mf) 0 [D.bool true]) ∧ D.len (D.setCells (D.slc (D.hd (hs_3 0 0)) 1 (List.append
 (D.rows (D.slc (D.hd (hs_2 0 0)) 1 [])) (D.rows s))) (Int.toNat mf) 0 [D.bool true]) ≤ 1048576) (.br (List.all (D.to Bool (D.setCells (D.slc (D.hd (hs_3 0 0)) 1 (List.append (D.rows (D.slc (D.hd (hs_2 0 0)) 1 []))
 (D.rows s))) (Int.toNat mf) 0 [D.bool true])) id) (.ret (SV.tup [.agg [.int .i64 nodes,.int .i64 round,.int .i64 0,.int .i64 deadline,.dat (D.slc (D.hd (hs_1 0 0)) 1 (List.append (D.rows (D.slc (D.hd
 (hs 0 0)) 1 [])) (D.rows d))),.dat (D.setCells (D.slc (D.hd (hs_3 0 0)) 1 (List.append (D.rows (D.slc (D.hd (hs_2 0 0)) 1 [])) (D.rows s))) (Int.toNat mf) 0 [D.bool true]),.lb true],.nils])) (.ret (SV.tup [.agg [.int .i64 nodes,.int .i64 round,.int .i64 phase,.int .i64 deadline,.dat
 (D.slc (D.hd (hs_1 0 0)) 1 (List.append (D.rows (D.slc (D.hd (hs 0 0)) 1 [])) (D.rows d))),.dat (D.setCells (D.slc (D.hd (hs_3 0 0)) 1 (List.append (D.rows (D.slc (D.hd (hs_2 0 0)) 1 [])) (D.rows s)))
 (Int.toNat mf) 0 [D.bool true]),.bool valid],.nils]))))))) z1) z1)))))))))) := by
 intros; kernel_rfl
end
end Sv.B21
end
noncomputable section
open Go Go.Proofs Sx
namespace Sx
theorem set_one {α : Type} [Codec α] {d : D} (hd : d.Is α) {i : Nat} (hi : i < (d.to α).length) (hs : Codec.sz α = 1) {c : D} {x : α} (hc : Codec.ok α [c]) (hx : Codec.dec [c] = x) :
  (d.setCells i 0 [c]).Is α ∧ (d.setCells i 0 [c]).to α = (d.to α).set i x := by
 have hz := hd.size hi
 have hr := rows_of hd
 have hl := rows_len hr
 have e : cutIn (d.rows.getD i []) 0 [c] = [c] := by
  have h1 : d.rows.getD i [] = d.rows[i] := by simp [hl,hi]
  have h2 := Codec.len (α := α) d.rows[i] (hr.1 _ (List.getElem_mem _))
  rw [hs] at h2
  rw [h1]
  obtain ⟨y,hy⟩ := List.length_eq_one_iff.1 h2
  rw [hy]; rfl
 have := is_of (α := α) (h := d.hd) (s := d.sz) (rows := d.rows.set i [c]) (xs := (d.to α).set i x) hz ⟨fun r hr'=>by
  rcases List.mem_or_eq_of_mem_set hr' with h | h
  ·exact hr.1 r h
  ·rw [h]; exact hc,by rw [List.map_set,hr.2,hx]⟩
 unfold D.setCells
 rw [e]
 exact this

theorem copy_is {α : Type} [Codec α] (h1 : Codec.sz α = 1) {d : D} (hd : d.Is α) (a b : Hd) : (D.slc a 1 (List.append (D.rows (D.slc b 1 [])) (D.rows d))).Is α ∧ (D.slc a 1 (List.append (D.rows (D.slc b 1 [])) (D.rows d))).to α = d.to α :=
 is_of h1.symm (rows_of hd)
def collGo (c : Co) (m : Msg) (g al : Bool) : Co × List Msg :=
 if m.kind = 2 then
  if c.phase ≠ 1 ∨ m.value < 0 ∨ m.value > 4096 ∨ g = true then (c,[])
  else if al = true then (⟨c.nodes,c.round,2,c.deadline,c.positions.set m.frm.toNat m.value,List.replicate c.nodes.toNat false,c.valid⟩,msgsTo c.nodes c.round 3)
  else (⟨c.nodes,c.round,c.phase,c.deadline,c.positions.set m.frm.toNat m.value,c.seen.set m.frm.toNat true,c.valid⟩,[])
 else if m.kind = 4 then
  if c.phase ≠ 2 then (c,[])
  else if m.value ≠ 1 then (⟨c.nodes,c.round,0,c.deadline,c.positions,c.seen,false⟩,msgsTo c.nodes c.round 24)
  else if al = true then (⟨c.nodes,c.round,0,c.deadline,c.positions,c.seen.set m.frm.toNat true,true⟩,[])
  else (⟨c.nodes,c.round,c.phase,c.deadline,c.positions,c.seen.set m.frm.toNat true,c.valid⟩,[])
 else (c,[])

theorem coll_bad {c : Co} {now : Int} {m : Msg} (h : ¬checkCo c = 0 ∨ c.phase = 0 ∨ now ≥ c.deadline ∨ m.frm < 0 ∨ m.frm ≥ c.nodes ∨ ¬m.number = c.round) : collectCo c now m = (c,[]) := by rw [collectCo,if_pos h]
theorem coll_go {c : Co} {now : Int} {m : Msg} {g al : Bool} (h : ¬(¬checkCo c = 0 ∨ c.phase = 0 ∨ now ≥ c.deadline ∨ m.frm < 0 ∨ m.frm ≥ c.nodes ∨ ¬m.number = c.round))
  (hg : c.seen.getD m.frm.toNat true = g) (ha : (c.seen.set m.frm.toNat true).all id = al) : collectCo c now m = collGo c m g al := by
 rw [collectCo,if_neg h,hg,ha]
 rfl

section
variable {P : Program} {w : World} {H : HV}
end
end Sx

namespace Sv.B21

theorem lawColl2 : Law Try.prog 28 ((rdCo.three rdInt rdMsg).sp spColl) := by
 refine law_in _ (by kernel_rfl) fun H w ⟨⟨n,r,p,dl,d,s,v⟩,now,⟨mk,mf,mto,mn,mv,me,ml,mb⟩⟩ hok hp=>?_
 obtain ⟨hd,hs⟩ := hp _ (List.mem_singleton.2 rfl)
 simp only at hd hs
 clear hp hok
 apply exec_sound ctMOk 800
 rw [show (rdCo.three rdInt rdMsg).canon (⟨n,r,p,dl,d,s,v⟩,now,⟨mk,mf,mto,mn,mv,me,ml,mb⟩) = [.agg [.int .i64 n,.int .i64 r,.int .i64 p,.int .i64 dl,.dat d,.dat s,.bool v],.int .i64 now,.agg [.int .i64 mk,.int .i64 mf,.int .i64 mto,.int .i64 mn,.int .i64 mv,.int .i64 me,.dat ml,.dat mb]] from rfl,coll2_in]
 have bad : ∀ {V},(∀ E,V.den E = (SV.bool v).den E) → (¬checkCo ⟨n,r,p,dl,d.to Int,s.to Bool,v⟩ = 0 ∨ p = 0 ∨ now ≥ dl ∨ mf < 0 ∨ mf ≥ n ∨ ¬mn = r) → (Tree.ret (.tup [.agg [.int .i64 n,.int .i64 r,.int .i64 p,.int .i64 dl,.dat d,.dat s,V],.nils])).holds Try.prog ⟨w,H⟩ (RetD w H fun ds =>
   .tup [coSV (ds 0) (ds 1) (collectCo ⟨n,r,p,dl,d.to Int,s.to Bool,v⟩ now ⟨mk,mf,mto,mn,mv,me,ml.to Int,mb.to Byte⟩).1,.dat ((ds 2).like (collectCo ⟨n,r,p,dl,d.to Int,s.to Bool,v⟩ now ⟨mk,mf,mto,mn,mv,me,ml.to Int,mb.to Byte⟩).2)]) :=
  fun hv h=>ret_co2 (stands_self hd) (stands_self hs) hv stands_nils (coll_bad h)
 refine ⟨⟨hd,hs⟩,fun h1=>?_,fun h1=>⟨fun h2=>?_,fun h2=>⟨fun h3=>?_,fun h3=>⟨fun h4=>?_,fun h4=>⟨fun h5=>?_,fun h5=>⟨fun h6=>?_,fun h6=>?_⟩⟩⟩⟩⟩⟩
 ·simp only [bne_iff_ne,ne_eq] at h1
  exact bad (fun _=>rfl) (.inl h1)
 ·simp only [decide_eq_true_eq] at h2
  exact bad (fun _=>rfl) (.inr (.inl h2))
 ·simp only [decide_eq_true_eq] at h3
  exact bad (fun _=>rfl) (.inr (.inr (.inl h3)))
 ·simp only [decide_eq_true_eq] at h4
  exact bad (fun _=>rfl) (.inr (.inr (.inr (.inl h4))))
 ·simp only [decide_eq_true_eq] at h5
  exact bad (fun _=>rfl) (.inr (.inr (.inr (.inr (.inl h5)))))
 ·simp only [bne_iff_ne,ne_eq] at h6
  exact bad (fun _=>rfl) (.inr (.inr (.inr (.inr (.inr h6)))))
 ·simp only [bne_eq_false_iff_eq] at h1 h6
  simp only [decide_eq_false_iff_not] at h2 h3 h4 h5
  have hck : checkCo ⟨n,r,p,dl,d.to Int,s.to Bool,v⟩ = 0 := h1
  clear h1
  have hz := checkCo_zero.1 hck
  have hi : mf.toNat < (s.to Bool).length := by omega
  have hi' : mf.toNat < (d.to Int).length := by omega
  have l1 := D.Is.length (α := Int) d
  have l2 := D.Is.length (α := Bool) s
  have l1' := rows_len (rows_of hd)
  have l2' := rows_len (rows_of hs)
  obtain ⟨g,hg⟩ : ∃ g,(s.to Bool).getD mf.toNat true = g := ⟨_,rfl⟩
  obtain ⟨al,ha⟩ : ∃ al,((s.to Bool).set mf.toNat true).all id = al := ⟨_,rfl⟩
  have E0 : collectCo ⟨n,r,p,dl,d.to Int,s.to Bool,v⟩ now ⟨mk,mf,mto,mn,mv,me,ml.to Int,mb.to Byte⟩ = collGo ⟨n,r,p,dl,d.to Int,s.to Bool,v⟩ ⟨mk,mf,mto,mn,mv,me,ml.to Int,mb.to Byte⟩ g al :=
   coll_go (by simp only [hck,not_true_eq_false,false_or]; omega) hg ha
  obtain ⟨b1,b2⟩ := bool_cell hs hi
  have hg' : s.getBool (Int.toNat mf) 0 = g := by rw [b1,← hg]; simp [hi]
  have dI := fun a b=>copy_is (α := Int) rfl hd a b
  have sI := fun a b=>copy_is (α := Bool) rfl hs a b
  have dS := fun a b=>set_one (c := .int .i64 mv) (x := mv) (dI a b).1 (i := mf.toNat) (by rw [(dI a b).2]; exact hi') rfl ⟨_,rfl⟩ rfl
  have sS := fun a b=>set_one (c := .bool true) (x := true) (sI a b).1 (i := mf.toNat) (by rw [(sI a b).2]; exact hi) rfl ⟨_,rfl⟩ rfl
  have ha' : ∀ a b,List.all (D.to Bool (D.setCells (D.slc a 1 (List.append (D.rows (D.slc b 1 [])) (D.rows s))) (Int.toNat mf) 0 [D.bool true])) id = al := fun a b=>by rw [(sS a b).2,(sI a b).2,ha]
  have n1 : ∀ a,(D.slc a 1 []).sz = 1 ∧ d.Fits 1 ∧ ((D.slc a 1 []).len + d.len) * 8 ≤ 140737488355328 ∧ (D.slc a 1 []).len + d.len ≤ 9223372036854775807 := fun a=>⟨rfl,hd.fits,by simp only [len_slc,List.length_nil]; omega,by simp only [len_slc,List.length_nil]; omega⟩
  have n2 : ∀ a,(D.slc a 1 []).sz = 1 ∧ s.Fits 1 ∧ ((D.slc a 1 []).len + s.len) * 1 ≤ 140737488355328 ∧ (D.slc a 1 []).len + s.len ≤ 9223372036854775807 := fun a=>⟨rfl,hs.fits,by simp only [len_slc,List.length_nil]; omega,by simp only [len_slc,List.length_nil]; omega⟩
  have n3 : 0 ≤ mf ∧ mf < (s.len : Int) ∧ s.sz = 1 := ⟨by omega,by omega,hs.size hi⟩
  have cd : ∀ a b,(D.slc a 1 (List.append (D.rows (D.slc b 1 [])) (D.rows d))).len = d.len := fun a b=>by rw [D.Is.length (α := Int),(dI a b).2,l1]
  have cs : ∀ a b,(D.slc a 1 (List.append (D.rows (D.slc b 1 [])) (D.rows s))).len = s.len := fun a b=>by rw [D.Is.length (α := Bool),(sI a b).2,l2]
  have n5 : ∀ a b,0 ≤ mf ∧ mf < ((D.slc a 1 (List.append (D.rows (D.slc b 1 [])) (D.rows d))).len : Int) ∧ (D.slc a 1 (List.append (D.rows (D.slc b 1 [])) (D.rows d))).sz = 1 := fun a b=>⟨by omega,by rw [cd]; omega,rfl⟩
  have n6 : ∀ a b,Int.toNat mf < (D.slc a 1 (List.append (D.rows (D.slc b 1 [])) (D.rows d))).len ∧ 1 ≤ (D.slc a 1 (List.append (D.rows (D.slc b 1 [])) (D.rows d))).sz ∧ (D.slc a 1 (List.append (D.rows (D.slc b 1 [])) (D.rows d))).sz = 1 := fun a b=>⟨by rw [cd]; omega,Nat.le_refl 1,rfl⟩
  have n7 : ∀ a b,0 ≤ mf ∧ mf < ((D.slc a 1 (List.append (D.rows (D.slc b 1 [])) (D.rows s))).len : Int) ∧ (D.slc a 1 (List.append (D.rows (D.slc b 1 [])) (D.rows s))).sz = 1 := fun a b=>⟨by omega,by rw [cs]; omega,rfl⟩
  have n8 : ∀ a b,Int.toNat mf < (D.slc a 1 (List.append (D.rows (D.slc b 1 [])) (D.rows s))).len ∧ 1 ≤ (D.slc a 1 (List.append (D.rows (D.slc b 1 [])) (D.rows s))).sz ∧ (D.slc a 1 (List.append (D.rows (D.slc b 1 [])) (D.rows s))).sz = 1 := fun a b=>⟨by rw [cs]; omega,Nat.le_refl 1,rfl⟩
  have n9 : ∀ a b,(D.setCells (D.slc a 1 (List.append (D.rows (D.slc b 1 [])) (D.rows s))) (Int.toNat mf) 0 [D.bool true]).Is Bool ∧ (D.setCells (D.slc a 1 (List.append (D.rows (D.slc b 1 [])) (D.rows s))) (Int.toNat mf) 0 [D.bool true]).len ≤ 1048576 := fun a b =>
   ⟨(sS a b).1,by rw [D.Is.length (α := Bool),(sS a b).2,(sI a b).2,List.length_set]; omega⟩
  have n10 : 0 ≤ n ∧ n = n ∧ ((1 : Nat) : Int) * n ≤ 281474976710656 ∧ n ≤ 9223372036854775807 := ⟨by omega,rfl,by omega,by omega⟩
  have n11 : n ≤ 8 := by omega
  have n12 : ∀ a b c e,(D.slc a 1 (List.append (D.rows (D.slc b 1 [])) (D.rows d))).Is Int ∧ (D.slc c 1 (List.append (D.rows (D.slc e 1 [])) (D.rows s))).Is Bool ∧ n ≤ 8 := fun a b c e=>⟨(dI a b).1,(sI c e).1,by omega⟩
  have sd : ∀ a b,Stands Int (.dat (D.setCells (D.slc a 1 (List.append (D.rows (D.slc b 1 [])) (D.rows d))) (Int.toNat mf) 0 [D.int .i64 mv])) ((d.to Int).set mf.toNat mv) := fun a b=>stands_dat (dS a b).1 (by rw [(dS a b).2,(dI a b).2])
  have ss : ∀ a b,Stands Bool (.dat (D.setCells (D.slc a 1 (List.append (D.rows (D.slc b 1 [])) (D.rows s))) (Int.toNat mf) 0 [D.bool true])) ((s.to Bool).set mf.toNat true) := fun a b=>stands_dat (sS a b).1 (by rw [(sS a b).2,(sI a b).2])
  have cd' : ∀ a b,Stands Int (.dat (D.slc a 1 (List.append (D.rows (D.slc b 1 [])) (D.rows d)))) (d.to Int) := fun a b=>stands_dat (dI a b).1 (dI a b).2
  have cs' : ∀ a b,Stands Bool (.dat (D.slc a 1 (List.append (D.rows (D.slc b 1 [])) (D.rows s)))) (s.to Bool) := fun a b=>stands_dat (sI a b).1 (sI a b).2
  simp only [hg',ha',fun a b=>(dI a b).2,fun a b=>(sI a b).2]
  simp only [CoD.co,MsgD.msg]
  rw [E0]
  clear E0 ha' hg' dI sI dS sS cd cs l1 l2 l1' l2' hg ha bad b1 hi hi' hck
  repeat' first
   | exact n11
   | refine ⟨n1 _,?_⟩
   | refine ⟨n2 _,?_⟩
   | refine ⟨n3,?_⟩
   | refine ⟨b2,?_⟩
   | refine ⟨n5 _ _,?_⟩
   | refine ⟨n6 _ _,?_⟩
   | refine ⟨n7 _ _,?_⟩
   | refine ⟨n8 _ _,?_⟩
   | refine ⟨n9 _ _,?_⟩
   | refine ⟨⟨n10.1,trivial,n10.2.2⟩,?_⟩
   | refine ⟨n11,?_⟩
   | refine ⟨n12 _ _ _ _,?_⟩
   | refine ⟨fun hc=>?_,fun hc=>?_⟩
   | with_reducible refine holds_all.2 fun _=>?_
   | fail
  all_goals (
   apply ret_co2
   case hx=>first | exact stands_like | exact stands_self hd | exact sd _ _ | exact cd' _ _
   case hy=>first | exact stands_like | exact stands_self hs | exact ss _ _ | exact cs' _ _ | exact falses_rows _
   case hv=>first | exact fun _=>rfl | exact lb_den
   case hz=>first | exact stands_nils | exact stands_like)
  all_goals (clear n1 n2 n3 n5 n6 n7 n8 n9 n10 n12 sd ss cd' cs' b2 hd hs)
  all_goals (simp only [collGo,gt_iff_lt,ge_iff_le,decide_eq_true_eq,decide_eq_false_iff_not,bne_iff_ne,ne_eq,bne_eq_false_iff_eq,Bool.not_eq_true',Bool.not_eq_false',Decidable.not_not] at *)
  all_goals (cases g <;> cases al <;> (try simp only [reduceCtorEq] at *) <;> (repeat' split) <;> first | rfl | (exfalso; omega) | (exfalso; simp only [and_true,and_false,or_true,or_false,not_true,not_false_iff] at *; done) | (exfalso; simp only [and_true,and_false,or_true,or_false] at *; omega) | skip)
end Sv.B21
end
noncomputable section
open Go Go.Proofs Sx
namespace Sv.B21
section
variable {w : World} {H : HV} {n r p dl : Int} {v : Bool} {d s : D} {res : Co × List Msg}
theorem all_snoc {l : List Bool} {j : Nat} (h : j < l.length) : (l.take (j + 1)).all id = ((l.take j).all id && l[j]) := by
 rw [List.take_succ_eq_append_getElem h,List.all_append]; simp
theorem seen62 (hd : d.Is Int) (hs : s.Is Bool) (hn : 1 ≤ n ∧ n ≤ 8) (hl : (s.to Bool).length ≤ 1048575)
  (hres : res = if (s.to Bool).all id = true then (⟨n,r,2,dl,d.to Int,List.replicate n.toNat false,v⟩,msgsTo n r 3) else (⟨n,r,p,dl,d.to Int,s.to Bool,v⟩,[])) :
  Runs Try.prog ⟨w,H⟩ (seenC fr62 n r p dl (.bool v) d s) (RetD w H fun ds=>.tup [coSV (ds 0) (ds 1) res.1,.dat ((ds 2).like res.2)]) := by
 apply goS_sound ctMOk (fun _=>false) [(83,15)] 800
 rw [sn62_in]
 have hl2 := D.Is.length (α := Bool) s
 refine runs_loop (fun q : Nat × Nat × Nat=>seenL fr62l n r p dl (.bool v) d s q.2.1 q.2.2 q.1)
  (fun q=>q.1 ≤ (s.to Bool).length ∧ q.2.1 ≤ q.1 ∧ q.2.2 ≤ q.1 ∧ (q.2.1 = 0 ↔ ((s.to Bool).take q.1).all id = true)) (fun q=>(s.to Bool).length - q.1) (fun _=>rfl) ?_ (0,0,0) ⟨Nat.zero_le _,Nat.le_refl _,Nat.le_refl _,by simp⟩
 intro ⟨j,x,y⟩ ⟨h1,h2,h3,h4⟩ ih
 simp only at h1 h2 h3 h4
 apply goS_sound ctMOk (fun _=>false) [(83,15)] 800
 rw [sl62_go]
 refine ⟨fun hc=>?_,fun hc=>?_⟩
 ·simp [hl2] at hc
  obtain ⟨c1,c2,c3⟩ := bool_at hs hc
  rw [c3]
  refine ⟨c1,⟨c2,c1.2.2⟩,fun hb=>⟨by omega,by omega,?_⟩,fun hb=>⟨by omega,by omega,?_⟩⟩
  ·have := ih (j + 1,x,y + 1) ⟨hc,by simp only; omega,by simp only; omega,by rw [all_snoc hc,hb,Bool.and_true]; exact h4⟩ (by simp only; omega)
   simp only at this
   rw [← wrap_succ hc (by omega),← wrap_succ (n := (s.to Bool).length) (by omega) (by omega)] at this
   exact this
  ·have := ih (j + 1,x + 1,y) ⟨hc,by simp only; omega,by simp only; omega,by rw [all_snoc hc,hb,Bool.and_false]; simp⟩ (by simp only; omega)
   simp only at this
   rw [← wrap_succ hc (by omega),← wrap_succ (n := (s.to Bool).length) (by omega) (by omega)] at this
   exact this
 ·simp [hl2] at hc
  have : j = (s.to Bool).length := by omega
  subst this
  rw [List.take_length] at h4
  refine ⟨by omega,fun hx=>?_,fun hx hs1=>⟨⟨by omega,rfl,by omega,by omega⟩,by omega,fun hs2=>?_⟩⟩
  ·have hx : ¬ x = 0 := by simpa using hx
   exact ret_co2 (stands_self hd) (stands_self hs) (fun _=>rfl) stands_nils (by rw [hres,if_neg (fun h=>hx (h4.2 h))])
  ·have hx : x = 0 := by simpa using hx
   exact ret_co2 (stands_self hd) (falses_rows _) (fun _=>rfl) stands_like (by rw [hres,if_pos (h4.1 hx)])
theorem seen63 (hd : d.Is Int) (hs : s.Is Bool) (hl : (s.to Bool).length ≤ 1048575)
  (hres : res = if (s.to Bool).all id = true then (⟨n,r,0,dl,d.to Int,s.to Bool,true⟩,[]) else (⟨n,r,p,dl,d.to Int,s.to Bool,v⟩,[])) :
  Runs Try.prog ⟨w,H⟩ (seenC fr63 n r p dl (.bool v) d s) (RetD w H fun ds=>.tup [coSV (ds 0) (ds 1) res.1,.dat ((ds 2).like res.2)]) := by
 apply goS_sound ctMOk (fun _=>false) [(83,15)] 800
 rw [sn63_in]
 have hl2 := D.Is.length (α := Bool) s
 refine runs_loop (fun q : Nat × Nat × Nat=>seenL fr63l n r p dl (.bool v) d s q.2.1 q.2.2 q.1)
  (fun q=>q.1 ≤ (s.to Bool).length ∧ q.2.1 ≤ q.1 ∧ q.2.2 ≤ q.1 ∧ (q.2.1 = 0 ↔ ((s.to Bool).take q.1).all id = true)) (fun q=>(s.to Bool).length - q.1) (fun _=>rfl) ?_ (0,0,0) ⟨Nat.zero_le _,Nat.le_refl _,Nat.le_refl _,by simp⟩
 intro ⟨j,x,y⟩ ⟨h1,h2,h3,h4⟩ ih
 simp only at h1 h2 h3 h4
 apply goS_sound ctMOk (fun _=>false) [(83,15)] 800
 rw [sl63_go]
 refine ⟨fun hc=>?_,fun hc=>?_⟩
 ·simp [hl2] at hc
  obtain ⟨c1,c2,c3⟩ := bool_at hs hc
  rw [c3]
  refine ⟨c1,⟨c2,c1.2.2⟩,fun hb=>⟨by omega,by omega,?_⟩,fun hb=>⟨by omega,by omega,?_⟩⟩
  ·have := ih (j + 1,x,y + 1) ⟨hc,by simp only; omega,by simp only; omega,by rw [all_snoc hc,hb,Bool.and_true]; exact h4⟩ (by simp only; omega)
   simp only at this
   rw [← wrap_succ hc (by omega),← wrap_succ (n := (s.to Bool).length) (by omega) (by omega)] at this
   exact this
  ·have := ih (j + 1,x + 1,y) ⟨hc,by simp only; omega,by simp only; omega,by rw [all_snoc hc,hb,Bool.and_false]; simp⟩ (by simp only; omega)
   simp only at this
   rw [← wrap_succ hc (by omega),← wrap_succ (n := (s.to Bool).length) (by omega) (by omega)] at this
   exact this
 ·simp [hl2] at hc
  have : j = (s.to Bool).length := by omega
  subst this
  rw [List.take_length] at h4
  refine ⟨by omega,fun hx=>?_,fun hx=>?_⟩
  ·have hx : x = 0 := by simpa using hx
   exact ret_co2 (stands_self hd) (stands_self hs) lb_den stands_nils (by rw [hres,if_pos (h4.1 hx)])
  ·have hx : ¬ x = 0 := by simpa using hx
   exact ret_co2 (stands_self hd) (stands_self hs) (fun _=>rfl) stands_nils (by rw [hres,if_neg (fun h=>hx (h4.2 h))])
theorem frz_run (hd : d.Is Int) (hs : s.Is Bool) {mk mf mto mn mv me : Int} {ml mb : D} (hn : 1 ≤ n ∧ n ≤ 8) (l1 : ((d.to Int).length : Int) = n) (l2 : ((s.to Bool).length : Int) = n) (hf : 0 ≤ mf ∧ mf < n) (hk : mk = 2)
  (hres : res = collGo ⟨n,r,p,dl,d.to Int,s.to Bool,v⟩ ⟨mk,mf,mto,mn,mv,me,ml.to Int,mb.to Byte⟩ ((s.to Bool).getD mf.toNat true) (((s.to Bool).set mf.toNat true).all id)) :
  Runs Try.prog ⟨w,H⟩ (frzC n r p dl (.bool v) d s mk mf mto mn mv me ml mb) (RetD w H fun ds=>.tup [coSV (ds 0) (ds 1) res.1,.dat ((ds 2).like res.2)]) := by
 have hi : mf.toNat < (s.to Bool).length := by omega
 have hi' : mf.toNat < (d.to Int).length := by omega
 have k1 := D.Is.length (α := Int) d
 have k2 := D.Is.length (α := Bool) s
 obtain ⟨b1,b2⟩ := bool_cell hs hi
 have hg : (s.to Bool).getD mf.toNat true = (s.to Bool)[mf.toNat] := by simp [hi]
 apply goS_sound ctMOk (fun _=>false) [(83,15)] 800
 rw [frz_go,b1]
 have bad : (p ≠ 1 ∨ mv < 0 ∨ mv > 4096 ∨ (s.to Bool)[mf.toNat] = true) → res = (⟨n,r,p,dl,d.to Int,s.to Bool,v⟩,[]) := fun h=>by
  rw [hres,collGo,if_pos hk,hg,if_pos h]
 have n3 : 0 ≤ mf ∧ mf < (s.len : Int) ∧ s.sz = 1 := ⟨by omega,by omega,hs.size hi⟩
 have n3' : 0 ≤ mf ∧ mf < (d.len : Int) ∧ d.sz = 1 := ⟨by omega,by omega,hd.size hi'⟩
 have n4 : s.HasCell (Int.toNat mf) 0 .bool ∧ s.sz = 1 := ⟨b2,n3.2.2⟩
 have n5 : Int.toNat mf < s.len ∧ 1 ≤ s.sz ∧ s.sz = 1 := ⟨by omega,by omega,n3.2.2⟩
 have n5' : Int.toNat mf < d.len ∧ 1 ≤ d.sz ∧ d.sz = 1 := ⟨by omega,by omega,n3'.2.2⟩
 obtain ⟨dS,dT⟩ := set_one (c := .int .i64 mv) (x := mv) hd hi' rfl ⟨_,rfl⟩ rfl
 obtain ⟨sS,sT⟩ := set_one (c := .bool true) (x := true) hs hi rfl ⟨_,rfl⟩ rfl
 intro hs0
 refine ⟨fun h1=>?_,fun h1=>⟨fun h2=>?_,fun h2=>⟨fun h3=>?_,fun h3=>?_⟩⟩⟩
 ·repeat' first | refine ⟨by assumption,?_⟩ | fail
  simp only [bne_iff_ne] at h1
  exact ret_co2 (stands_self hd) (stands_self hs) (fun _=>rfl) stands_nils (bad (.inl h1))
 ·repeat' first | refine ⟨by assumption,?_⟩ | fail
  simp only [decide_eq_true_eq] at h2
  exact ret_co2 (stands_self hd) (stands_self hs) (fun _=>rfl) stands_nils (bad (.inr (.inl h2)))
 ·repeat' first | refine ⟨by assumption,?_⟩ | fail
  simp only [decide_eq_true_eq] at h3
  exact ret_co2 (stands_self hd) (stands_self hs) (fun _=>rfl) stands_nils (bad (.inr (.inr (.inl h3))))
 ·repeat' first | refine ⟨by assumption,?_⟩ | fail
  refine ⟨fun h4=>?_,fun h4 hs1=>⟨n3',n5',n3,n5,?_⟩⟩
  ·exact ret_co2 (stands_self hd) (stands_self hs) (fun _=>rfl) stands_nils (bad (.inr (.inr (.inr h4))))
  ·refine seen62 dS sS hn (by rw [sT,List.length_set]; omega) ?_
   rw [hres,collGo,if_pos hk,hg]
   simp only [bne_eq_false_iff_eq] at h1
   simp only [decide_eq_false_iff_not] at h2 h3
   rw [if_neg (by rw [h4]; simp only [ne_eq,h1]; simp; omega),dT,sT]
theorem thw_run (hd : d.Is Int) (hs : s.Is Bool) {mk mf mto mn mv me : Int} {ml mb : D} (hn : 1 ≤ n ∧ n ≤ 8) (l2 : ((s.to Bool).length : Int) = n) (hf : 0 ≤ mf ∧ mf < n) (hk2 : ¬mk = 2) (hk : mk = 4) {g : Bool}
  (hres : res = collGo ⟨n,r,p,dl,d.to Int,s.to Bool,v⟩ ⟨mk,mf,mto,mn,mv,me,ml.to Int,mb.to Byte⟩ g (((s.to Bool).set mf.toNat true).all id)) :
  Runs Try.prog ⟨w,H⟩ (thwC n r p dl (.bool v) d s mk mf mto mn mv me ml mb) (RetD w H fun ds=>.tup [coSV (ds 0) (ds 1) res.1,.dat ((ds 2).like res.2)]) := by
 have hi : mf.toNat < (s.to Bool).length := by omega
 have k2 := D.Is.length (α := Bool) s
 apply goS_sound ctMOk (fun _=>false) [(83,15)] 800
 rw [thw_go]
 have n3 : 0 ≤ mf ∧ mf < (s.len : Int) ∧ s.sz = 1 := ⟨by omega,by omega,hs.size hi⟩
 have n5 : Int.toNat mf < s.len ∧ 1 ≤ s.sz ∧ s.sz = 1 := ⟨by omega,by omega,n3.2.2⟩
 obtain ⟨sS,sT⟩ := set_one (c := .bool true) (x := true) hs hi rfl ⟨_,rfl⟩ rfl
 refine ⟨fun h1=>?_,fun h1=>⟨fun h2=>⟨by omega,fun hs1=>?_⟩,fun h2=>⟨n3,n5,?_⟩⟩⟩
 ·simp only [bne_iff_ne] at h1
  exact ret_co2 (stands_self hd) (stands_self hs) (fun _=>rfl) stands_nils (by rw [hres,collGo,if_neg hk2,if_pos hk,if_pos h1])
 ·simp only [bne_iff_ne] at h2
  simp only [bne_eq_false_iff_eq] at h1
  exact ret_co2 (stands_self hd) (stands_self hs) lb_den stands_like (by rw [hres,collGo,if_neg hk2,if_pos hk,if_neg (not_not_intro h1),if_pos h2])
 ·simp only [bne_eq_false_iff_eq] at h1 h2
  refine seen63 hd sS (by rw [sT,List.length_set]; omega) ?_
  rw [hres,collGo,if_neg hk2,if_pos hk,if_neg (not_not_intro h1),if_neg (not_not_intro h2),sT]
end
theorem lawColl1 : Law Try.prog 27 ((rdCo.three rdInt rdMsg).sp spColl) := by
 refine law_in _ (by kernel_rfl) fun H w ⟨⟨n,r,p,dl,d,s,v⟩,now,⟨mk,mf,mto,mn,mv,me,ml,mb⟩⟩ hok hp=>?_
 obtain ⟨hd,hs⟩ := hp _ (List.mem_singleton.2 rfl)
 simp only at hd hs
 clear hp hok
 apply goS_sound ctMOk (fun _=>false) [(62,3),(63,3),(83,15)] 800
 rw [show (rdCo.three rdInt rdMsg).canon (⟨n,r,p,dl,d,s,v⟩,now,⟨mk,mf,mto,mn,mv,me,ml,mb⟩) = [.agg [.int .i64 n,.int .i64 r,.int .i64 p,.int .i64 dl,.dat d,.dat s,.bool v],.int .i64 now,.agg [.int .i64 mk,.int .i64 mf,.int .i64 mto,.int .i64 mn,.int .i64 mv,.int .i64 me,.dat ml,.dat mb]] from rfl,coll1_in]
 have bad : (¬checkCo ⟨n,r,p,dl,d.to Int,s.to Bool,v⟩ = 0 ∨ p = 0 ∨ now ≥ dl ∨ mf < 0 ∨ mf ≥ n ∨ ¬mn = r) → (Tree.ret (.tup [.agg [.int .i64 n,.int .i64 r,.int .i64 p,.int .i64 dl,.dat d,.dat s,.bool v],.nils])).holds Try.prog ⟨w,H⟩ (RetD w H fun ds =>
   .tup [coSV (ds 0) (ds 1) (collectCo ⟨n,r,p,dl,d.to Int,s.to Bool,v⟩ now ⟨mk,mf,mto,mn,mv,me,ml.to Int,mb.to Byte⟩).1,.dat ((ds 2).like (collectCo ⟨n,r,p,dl,d.to Int,s.to Bool,v⟩ now ⟨mk,mf,mto,mn,mv,me,ml.to Int,mb.to Byte⟩).2)]) :=
  fun h=>ret_co2 (stands_self hd) (stands_self hs) (fun _=>rfl) stands_nils (coll_bad h)
 refine ⟨⟨hd,hs⟩,fun h1=>?_,fun h1=>⟨fun h2=>?_,fun h2=>⟨fun h3=>?_,fun h3=>⟨fun h4=>?_,fun h4=>⟨fun h5=>?_,fun h5=>⟨fun h6=>?_,fun h6 hs0=>?_⟩⟩⟩⟩⟩⟩
 ·simp only [bne_iff_ne,ne_eq] at h1
  exact bad (.inl h1)
 ·simp only [decide_eq_true_eq] at h2
  exact bad (.inr (.inl h2))
 ·simp only [decide_eq_true_eq] at h3
  exact bad (.inr (.inr (.inl h3)))
 ·simp only [decide_eq_true_eq] at h4
  exact bad (.inr (.inr (.inr (.inl h4))))
 ·simp only [decide_eq_true_eq] at h5
  exact bad (.inr (.inr (.inr (.inr (.inl h5)))))
 ·simp only [bne_iff_ne,ne_eq] at h6
  exact bad (.inr (.inr (.inr (.inr (.inr h6)))))
 ·simp only [bne_eq_false_iff_eq] at h1 h6
  simp only [decide_eq_false_iff_not] at h2 h3 h4 h5
  have hck : checkCo ⟨n,r,p,dl,d.to Int,s.to Bool,v⟩ = 0 := h1
  clear h1
  have hz := checkCo_zero.1 hck
  have l1 := D.Is.length (α := Int) d
  have l2 := D.Is.length (α := Bool) s
  have E0 : collectCo ⟨n,r,p,dl,d.to Int,s.to Bool,v⟩ now ⟨mk,mf,mto,mn,mv,me,ml.to Int,mb.to Byte⟩ = collGo ⟨n,r,p,dl,d.to Int,s.to Bool,v⟩ ⟨mk,mf,mto,mn,mv,me,ml.to Int,mb.to Byte⟩ ((s.to Bool).getD mf.toNat true) (((s.to Bool).set mf.toNat true).all id) :=
   coll_go (by simp only [hck,not_true_eq_false,false_or]; omega) rfl rfl
  obtain ⟨dI,dT⟩ := is_of (h := D.hd (hs0 2 0)) (s := 1) rfl (rows_of hd)
  obtain ⟨sI,sT⟩ := is_of (h := D.hd (hs0 5 0)) (s := 1) rfl (rows_of hs)
  refine ⟨⟨hd,by omega⟩,⟨hs,by omega⟩,fun k1=>?_,fun k1=>⟨fun k2=>?_,fun k2=>?_⟩⟩
  ·simp only [decide_eq_true_eq] at k1
   exact frz_run dI sI hz.1 (by rw [dT]; exact hz.2.2.2.2.1) (by rw [sT]; exact hz.2.2.2.2.2.1) (by omega) k1 (by rw [dT,sT]; exact E0)
  ·simp only [decide_eq_true_eq] at k2
   simp only [decide_eq_false_iff_not] at k1
   exact thw_run dI sI hz.1 (by rw [sT]; exact hz.2.2.2.2.2.1) (by omega) k1 k2 (by rw [dT,sT]; exact E0)
  ·simp only [decide_eq_false_iff_not] at k1 k2
   exact ret_co2 (stands_self hd) (stands_self hs) (fun _=>rfl) stands_nils (by rw [show (CoD.mk n r p dl d s v).co = ⟨n,r,p,dl,d.to Int,s.to Bool,v⟩ from rfl]; exact E0.trans (by rw [collGo,if_neg k1,if_neg k2]))
end Sv.B21
end
noncomputable section
open Go Go.Proofs Go.Shelf Sx
namespace Sv.B21
def ren74 : Ren := ⟨fun | 23=>74 | n=>n,fun n=>n,fun n=>n⟩
theorem lays74 : Lays2.n23 Try.prog ren74 where
 mixed := by kernel_rfl
 f23 := Try.func74.trans (congrArg some (by kernel_rfl))
 t0 := Try.underlying0
 a0 := Try.isAgg0
 z0 := Try.sizeOf0
 v0 := Try.zeroValue0
 t3 := Try.underlying3
 a3 := Try.isAgg3
 z3 := Try.sizeOf3
 v3 := Try.zeroValue3
 t4 := Try.underlying4
 a4 := Try.isAgg4
 z4 := Try.sizeOf4
 v4 := Try.zeroValue4
 t22 := Try.underlying22
 a22 := Try.isAgg22
 z22 := Try.sizeOf22
 v22 := Try.zeroValue22
 i3 := by kernel_rfl
theorem del74 : Deletes Try.prog 74 := fun blk cap i j zs w hH hc hm hij hj=>Any.slices_Delete_int lays74 blk 0 cap i j zs w hH hc hm hij hj
theorem ctr74 : CtrOk Try.prog 74 (dCtr 3) := dCtr_ok (bodied_spec (by kernel_rfl)) del74
end Sv.B21
end
noncomputable section
open Go Go.Proofs Sx
namespace Sv.B21
section
variable (n j now write : Int) (a b d s wt hd : D) (frozen : Bool) (mr mp mt mi mu : Int)
theorem rel1_in : exec Try.prog ctD 600 (entry Try.prog 42 [.agg [.int .i64 mr,.int .i64 mp,.int .i64 mt,.int .i64 mi,.bool frozen,.int .i64 mu,.dat wt,.dat hd],.int .i64 now]) =
 Tree.need (MbD.Right (MbD.mk mr mp mt mi frozen mu wt hd))
 (.br (checkMb (MbD.mb (MbD.mk mr mp mt mi frozen mu wt hd)) != 0)
 (.ret
 (SV.tup
 [.agg
 [.int .i64 mr,.int .i64 mp,.int .i64 mt,.int .i64 mi,.bool frozen,
 .int .i64 mu,.dat wt,.dat hd],
 .nils]))
 (.br (!frozen)
 (.ret
 (SV.tup
 [.agg
 [.int .i64 mr,.int .i64 mp,.int .i64 mt,.int .i64 mi,
 .bool frozen,.int .i64 mu,.dat wt,.dat hd],
 .nils]))
 (.br (decide (mu > now))
 (.ret
 (SV.tup
 [.agg
 [.int .i64 mr,.int .i64 mp,.int .i64 mt,.int .i64 mi,
 .bool frozen,.int .i64 mu,.dat wt,.dat hd],
 .nils]))
 (.need (D.Is Int hd ∧ D.len hd ≤ 1048576)
 (.all fun hs =>
 .all fun hs_1 =>
 .ret
 (SV.tup
 [.agg
 [.int .i64 mr,.int .i64 mp,.int .i64 mt,.int .i64 mi,
 .lb false,.int .i64 mu,.dat wt,.nils],
 .dat (D.slc (D.hd (hs 0 0)) 1 (D.rows hd))])))))) := by kernel_rfl
theorem rel2_in : exec Try.prog ctD 600 (entry Try.prog 43 [.agg [.int .i64 mr,.int .i64 mp,.int .i64 mt,.int .i64 mi,.bool frozen,.int .i64 mu,.dat wt,.dat hd],.int .i64 now]) =
 Tree.need (MbD.Right (MbD.mk mr mp mt mi frozen mu wt hd))
 (.br (checkMb (MbD.mb (MbD.mk mr mp mt mi frozen mu wt hd)) != 0)
 (.ret
 (SV.tup
 [.agg
 [.int .i64 mr,.int .i64 mp,.int .i64 mt,.int .i64 mi,.bool frozen,
 .int .i64 mu,.dat wt,.dat hd],
 .nils]))
 (.br (!frozen)
 (.ret
 (SV.tup
 [.agg
 [.int .i64 mr,.int .i64 mp,.int .i64 mt,.int .i64 mi,
 .bool frozen,.int .i64 mu,.dat wt,.dat hd],
 .nils]))
 (.br (decide (mu > now))
 (.ret
 (SV.tup
 [.agg
 [.int .i64 mr,.int .i64 mp,.int .i64 mt,.int .i64 mi,
 .bool frozen,.int .i64 mu,.dat wt,.dat hd],
 .nils]))
 (.need (MbD.Right (MbD.mk mr mp mt mi frozen mu wt hd))
 (.all fun hs =>
 .ret
 (SV.tup
 [.agg
 [.int .i64 mr,.int .i64 mp,.int .i64 mt,.int .i64 mi,
 .bool false,.int .i64 mu,.dat (D.like (hs 0 0) (D.to Int wt)),
 .dat (D.like (hs 0 1) ([] : List Int))],
 .dat (D.like (hs 0 2) (D.to Int hd))])))))) := by kernel_rfl
theorem dur1_in : 
 let z1 : List SV := [.int .i64 0,.int .i64 0,.int .i64 0,.int .i64 0,.lb false,.int .i64 0,.nils,.nils]
 let z2 := (Int.toNat (IntKind.wrap .i64 ((idxP (D.to Int wt) fun y=>decide (write = y)) + 1)))
 let z3 := (MbD.mk mr mp mt mi frozen mu wt hd)
 exec Try.prog ctD 600 (entry Try.prog 40 [.agg [.int .i64 mr,.int .i64 mp,.int .i64 mt,.int .i64 mi,.bool frozen,.int .i64 mu,.dat wt,.dat hd],.int .i64 write]) =
 Tree.need (MbD.Right z3) (.br (checkMb (MbD.mb z3) != 0) (.ret (SV.tup [.agg z1,.nils,.int .i64 (checkMb (MbD.mb z3))])) (.need (D.Is Int wt ∧ D.len wt ≤ 1048576) (.br (decide ((idxP (D.to Int wt) fun y=>decide
 (write = y)) < 0)) (.ret (SV.tup [.agg z1,.nils,.int .i64 7])) (.need (D.Is Int wt ∧ D.len wt ≤ 1048576) (.all fun hs=>.need (D.Is Int (D.slc (D.hd (hs 0 0)) 1 (D.rows wt)) ∧ (0 ≤ idxP (D.to Int wt) fun y=>decide
 (write = y)) ∧ (idxP (D.to Int wt) fun y=>decide (write = y)) < IntKind.wrap .i64 ((idxP (D.to Int wt) fun y=>decide (write = y)) + 1) ∧ IntKind.wrap .i64 ((idxP (D.to Int wt) fun y=>decide (write = y)) + 1) ≤
 (↑(D.len (D.slc (D.hd (hs 0 0)) 1 (D.rows wt))) : Int)) (.all fun hs_1=>.br (!frozen) (.all fun hs_2=>.ret (SV.tup [.agg [.int .i64 mr,.int .i64 mp,.int .i64 mt,.int .i64 mi,.bool frozen,.int .i64 mu,.dat
 (D.slc (D.hd (D.slc (D.hd (hs 0 0)) 1 (D.rows wt))) (D.sz (D.slc (D.hd (hs 0 0)) 1 (D.rows wt))) (List.append (List.take (Int.toNat (idxP (D.to Int wt) fun y=>decide (write = y))) (D.rows (D.slc (D.hd
 (hs 0 0)) 1 (D.rows wt)))) (List.drop z2 (D.rows (D.slc (D.hd (hs 0 0)) 1 (D.rows wt)))))),.dat hd],.dat (D.slc (D.hd (hs_2 0 0)) 1 [[D.int .i64 write]]),.int .i64 0])) (.need (D.Is Int hd ∧ D.len hd ≤ 1048576)
 (.all fun hs_2=>.all fun hs_3=>.need (D.sz (D.slc (D.hd (hs_2 0 0)) 1 (D.rows hd)) = 1 ∧ D.Fits (D.slc (D.hd (hs_3 0 0)) 1 [[D.int .i64 write]]) 1 ∧ (D.len (D.slc (D.hd (hs_2 0 0)) 1 (D.rows hd)) + D.len
 (D.slc (D.hd (hs_3 0 0)) 1 [[D.int .i64 write]])) * 8 ≤ 140737488355328 ∧ D.len (D.slc (D.hd (hs_2 0 0)) 1 (D.rows hd)) + D.len (D.slc (D.hd (hs_3 0 0)) 1 [[D.int .i64 write]]) ≤ 9223372036854775807) (.all fun hs_4=>.ret
 (SV.tup [.agg [.int .i64 mr,.int .i64 mp,.int .i64 mt,.int .i64 mi,.bool frozen,.int .i64 mu,.dat (D.slc (D.hd (D.slc (D.hd (hs 0 0)) 1 (D.rows wt))) (D.sz (D.slc (D.hd (hs 0 0)) 1 (D.rows wt)))
 (List.append (List.take (Int.toNat (idxP (D.to Int wt) fun y=>decide (write = y))) (D.rows (D.slc (D.hd (hs 0 0)) 1 (D.rows wt)))) (List.drop z2 (D.rows (D.slc (D.hd (hs 0 0)) 1 (D.rows wt)))))),.dat
 (D.slc (D.hd (hs_4 0 0)) 1 (List.append (D.rows (D.slc (D.hd (hs_2 0 0)) 1 (D.rows hd))) (D.rows (D.slc (D.hd (hs_3 0 0)) 1 [[D.int .i64 write]]))))],.nils,.int .i64 0])))))))))) := by
 intros; kernel_rfl
theorem dur2_in : exec Try.prog ctD 600 (entry Try.prog 41 [.agg [.int .i64 mr,.int .i64 mp,.int .i64 mt,.int .i64 mi,.bool frozen,.int .i64 mu,.dat wt,.dat hd],.int .i64 write]) =
 Tree.need (MbD.Right (MbD.mk mr mp mt mi frozen mu wt hd))
 (.br (checkMb (MbD.mb (MbD.mk mr mp mt mi frozen mu wt hd)) != 0)
 (.ret
 (SV.tup
 [.agg
 [.int .i64 0,.int .i64 0,.int .i64 0,.int .i64 0,.lb false,
 .int .i64 0,.nils,.nils],
 .nils,.int .i64 3]))
 (.need (D.Is Int wt ∧ D.len wt ≤ 1048576)
 (.br (!List.contains (D.to Int wt) write)
 (.ret
 (SV.tup
 [.agg
 [.int .i64 0,.int .i64 0,.int .i64 0,.int .i64 0,.lb false,
 .int .i64 0,.nils,.nils],
 .nils,.int .i64 7]))
 (.leaf
 (Conf.mk
 (SFrm.mk 41 none none
 [Item.inLoop (cA 41 [1,1,1,1,0,1,0,0]),Item.inBlock 0,
 Item.code (cA 41 [1,1,1,1,1])]
 (mkJ 0
 [(1,.int .i64 write),(2,.ptr 0 0),(4,.ptr 1 0),(7,.nils),
 (8,.int .i64 0)]
 0 57))
 []
 [(0,
 OBlk.cells 28
 [.int .i64 mr,.int .i64 mp,.int .i64 mt,.int .i64 mi,
 .bool frozen,.int .i64 mu,.dat wt,.dat hd]),
 (1,
 OBlk.cells 28
 [.int .i64 0,.int .i64 0,.int .i64 0,.int .i64 0,.lb false,
 .int .i64 0,.nils,.nils])]))))) := by kernel_rfl
end
def durL (mr mp mt mi mu : Int) (frozen : Bool) (wt hd : D) (write : Int) (out : D) (j : Int) : Conf :=
 Conf.mk (SFrm.mk 41 none none [Item.inLoop (cA 41 [1,1,1,1,0,1,0,0]),Item.inBlock 0,Item.code (cA 41 [1,1,1,1,1])]
 (mkJ 0 [(1,.int .i64 write),(2,.ptr 0 0),(4,.ptr 1 0),(7,.vec 2),(8,.int .i64 j)] 0 57)) []
 [(0,OBlk.cells 28 [.int .i64 mr,.int .i64 mp,.int .i64 mt,.int .i64 mi,.bool frozen,.int .i64 mu,.dat wt,.dat hd]),
 (1,OBlk.cells 28 [.int .i64 0,.int .i64 0,.int .i64 0,.int .i64 0,.lb false,.int .i64 0,.nils,.nils]),(2,OBlk.arr 3 out)]
section
variable (n j now write : Int) (a b d s wt hd out : D) (frozen : Bool) (mr mp mt mi mu : Int)
theorem durl_go : 
 let z1 := (SFrm.mk 41 none none [Item.inLoop (cA 41 [1,1,1,1,0,1,0,0]),Item.inBlock 0,Item.code (cA 41 [1,1,1,1,1])] (mkJ 0 [(1,.int .i64 write),(2,.ptr 0 0),(4,.ptr 1 0),(7,.vec 2),(8,.int .i64 (IntKind.wrap .i64 (j + 1)))] 0 57))
 let z2 : List SV := [.int .i64 mr,.int .i64 mp,.int .i64 mt,.int .i64 mi,.bool frozen,.int .i64 mu,.dat wt,.dat hd]
 let z3 : List SV := [.int .i64 0,.int .i64 0,.int .i64 0,.int .i64 0,.lb false,.int .i64 0,.nils,.nils]
 let z4 := (D.getInt wt (Int.toNat j) 0)
 exec Try.prog ctD 600 (unroll (durL mr mp mt mi mu frozen wt hd write out j)) =
 Tree.br (decide (j < (↑(D.len wt) : Int))) (.need (0 ≤ j ∧ j < (↑(D.len wt) : Int) ∧ D.sz wt = 1) (.need (D.HasCell wt (Int.toNat j) 0 (FT.int .i64)) (.br (D.getInt wt (Int.toNat j) 0 != write) (.need
 (0 ≤ j ∧ j < (↑(D.len wt) : Int) ∧ D.sz wt = 1) (.need (D.HasCell wt (Int.toNat j) 0 (FT.int .i64)) (.all fun hs=>.need (D.sz out = 1 ∧ D.Fits (D.slc (D.hd (hs 0 0)) 1 [[D.int .i64 z4]]) 1 ∧ (D.len out + D.len
 (D.slc (D.hd (hs 0 0)) 1 [[D.int .i64 z4]])) * 8 ≤ 140737488355328 ∧ D.len out + D.len (D.slc (D.hd (hs 0 0)) 1 [[D.int .i64 z4]]) ≤ 9223372036854775807) (.all fun hs_1=>.leaf (Conf.mk z1 [] [(0,OBlk.cells 28 z2),
 (1,OBlk.cells 28 z3),(2,OBlk.arr 3 (D.slc (D.hd (hs_1 0 0)) 1 (List.append (D.rows out) (D.rows (D.slc (D.hd (hs 0 0)) 1 [[D.int .i64 z4]])))))]))))) (.leaf (Conf.mk z1 [] [(0,OBlk.cells 28 z2),(1,OBlk.cells 28 z3),
 (2,OBlk.arr 3 out)]))))) (.br frozen (.all fun hs=>.need (D.sz (D.slc (D.hd (hs 0 0)) 1 []) = 1 ∧ D.Fits hd 1 ∧ (D.len (D.slc (D.hd (hs 0 0)) 1 []) + D.len hd) * 8 ≤ 140737488355328 ∧ D.len (D.slc (D.hd
 (hs 0 0)) 1 []) + D.len hd ≤ 9223372036854775807) (.all fun hs_1=>.all fun hs_2=>.need (D.sz (D.slc (D.hd (hs_1 0 0)) 1 (List.append (D.rows (D.slc (D.hd (hs 0 0)) 1 [])) (D.rows hd))) = 1 ∧ D.Fits
 (D.slc (D.hd (hs_2 0 0)) 1 [[D.int .i64 write]]) 1 ∧ (D.len (D.slc (D.hd (hs_1 0 0)) 1 (List.append (D.rows (D.slc (D.hd (hs 0 0)) 1 [])) (D.rows hd))) + D.len (D.slc (D.hd (hs_2 0 0)) 1 [[D.int .i64 write]])) * 8 ≤ 140737488355328 ∧ D.len
 (D.slc (D.hd (hs_1 0 0)) 1 (List.append (D.rows (D.slc (D.hd (hs 0 0)) 1 [])) (D.rows hd))) + D.len (D.slc (D.hd (hs_2 0 0)) 1 [[D.int .i64 write]]) ≤ 9223372036854775807) (.all fun hs_3=>.ret (SV.tup [.agg [.int .i64 mr,.int .i64 mp,.int .i64 mt,.int .i64 mi,.bool frozen,.int .i64 mu,.dat out,.dat
 (D.slc (D.hd (hs_3 0 0)) 1 (List.append (D.rows (D.slc (D.hd (hs_1 0 0)) 1 (List.append (D.rows (D.slc (D.hd (hs 0 0)) 1 [])) (D.rows hd)))) (D.rows (D.slc (D.hd (hs_2 0 0)) 1 [[D.int .i64 write]]))))],.nils,.int .i64 0]))))
 (.all fun hs=>.ret (SV.tup [.agg [.int .i64 mr,.int .i64 mp,.int .i64 mt,.int .i64 mi,.bool frozen,.int .i64 mu,.dat out,.dat hd],.dat (D.slc (D.hd (hs 0 0)) 1 [[D.int .i64 write]]),.int .i64 0]))) := by
 intros; kernel_rfl
end
end Sv.B21
end
noncomputable section
open Go Go.Proofs Sx
namespace Sx

theorem checkMb_or (m : Mb) : checkMb m = 0 ∨ checkMb m = 3 := by
 unfold checkMb
 repeat' split
 all_goals simp

theorem checkMb_up {m : Mb} (h : checkMb m = 0) : ∀ i,(hi : i + 1 < m.waiting.length) → m.waiting[i] < m.waiting[i + 1] := by
 unfold checkMb at h
 split at h
 ·cases h
 ·split at h
  ·cases h
  ·rename_i hh
   simp only [Bool.not_eq_true,List.any_eq_false,List.mem_range,badW,Bool.or_eq_true,not_or,Bool.and_eq_true,decide_eq_true_eq,not_and] at hh
   intro i hi
   have := (hh (i + 1) hi).2 (by omega)
   simp [hi,show i < m.waiting.length by omega] at this
   omega

theorem up_lt {l : List Int} (h : ∀ i,(hi : i + 1 < l.length) → l[i] < l[i + 1]) : ∀ k i,(hk : i + k + 1 < l.length) → l[i] < l[i + k + 1]
 | 0,i,hk=>h i hk
 | k + 1,i,hk=>by
  have h1 := up_lt h k i (by omega)
  have h2 := h (i + k + 1) (by omega)
  have e : i + (k + 1) + 1 = i + k + 1 + 1 := by omega
  simp only [e]
  omega

theorem filter_up {l : List Int} (h : ∀ i,(hi : i + 1 < l.length) → l[i] < l[i + 1]) {i : Nat} (hi : i < l.length) : l.filter (fun y=>y != l[i]) = l.take i ++ l.drop (i + 1) := by
 have e : l = l.take i ++ (l[i] :: l.drop (i + 1)) := by rw [List.getElem_cons_drop,List.take_append_drop]
 have e2 : ∀ p : Int → Bool,l.filter p = (l.take i ++ (l[i] :: l.drop (i + 1))).filter p := fun p=>congrArg (List.filter p) e
 rw [e2,List.filter_append,List.filter_cons]
 simp only [bne_self_eq_false,Bool.false_eq_true,if_false]
 rw [List.filter_eq_self.2,List.filter_eq_self.2]
 ·intro y hy
  obtain ⟨k,hk,rfl⟩ := List.mem_iff_getElem.1 hy
  simp only [List.length_drop] at hk
  rw [List.getElem_drop]
  have h1 := up_lt h k i (by omega)
  have e : i + 1 + k = i + k + 1 := by omega
  simp only [e,bne_iff_ne]
  omega
 ·intro y hy
  obtain ⟨k,hk,rfl⟩ := List.mem_iff_getElem.1 hy
  simp only [List.length_take] at hk
  rw [List.getElem_take]
  have h1 := up_lt h (i - k - 1) k (by omega)
  have e : k + (i - k - 1) + 1 = i := by omega
  simp only [e] at h1
  simp only [bne_iff_ne]
  omega

theorem idxP_cases (l : List Int) (x : Int) : (idxP l (fun y=>decide (x = y)) = -1 ∧ l.contains x = false) ∨ ∃ i : Nat,idxP l (fun y=>decide (x = y)) = i ∧ ∃ h : i < l.length,l[i] = x := by
 unfold idxP
 cases hf : l.findIdx? (fun y=>decide (x = y)) with
 | none =>
  refine .inl ⟨rfl,?_⟩
  rw [List.findIdx?_eq_none_iff] at hf
  rw [Bool.eq_false_iff]
  intro hc
  have := hf x (List.contains_iff_mem.1 hc)
  simp at this
 | some i =>
  rw [List.findIdx?_eq_some_iff_getElem] at hf
  obtain ⟨h1,h2,_⟩ := hf
  exact .inr ⟨i,rfl,h1,by simpa using (of_decide_eq_true h2).symm⟩

theorem dur_bad {m : Mb} {x : Int} (h : ¬checkMb m = 0) : durMb m x = (noMb,[],3) := by rw [durMb,if_pos h]
theorem dur_none {m : Mb} {x : Int} (h : checkMb m = 0) (h2 : m.waiting.contains x = false) : durMb m x = (noMb,[],7) := by rw [durMb,if_neg (not_not_intro h),if_pos h2]
theorem dur_held {m : Mb} {x : Int} (h : checkMb m = 0) (h2 : m.waiting.contains x = true) (h3 : m.frozen = true) : durMb m x = ({ m with waiting := m.waiting.filter fun y=>y != x,held := m.held ++ [x] },[],0) := by
 rw [durMb,if_neg (not_not_intro h),if_neg (by rw [h2]; decide),if_pos h3]
theorem dur_free {m : Mb} {x : Int} (h : checkMb m = 0) (h2 : m.waiting.contains x = true) (h3 : m.frozen = false) : durMb m x = ({ m with waiting := m.waiting.filter fun y=>y != x },[x],0) := by
 rw [durMb,if_neg (not_not_intro h),if_neg (by rw [h2]; decide),if_neg (by simp [h3])]

section
variable {P : Program} {w : World} {H : HV}
theorem ret_mb2I {r p t i u k : Int} {F W Hd X : SV} {f : Bool} {ws hs av : List Int} {res : Mb × List Int × Int} (hf : ∀ E,F.den E = (SV.bool f).den E) (hw : Stands Int W ws) (hh : Stands Int Hd hs) (hx : Stands Int X av)
  (hr : res = (⟨r,p,t,i,f,u,ws,hs⟩,av,k)) :
  (Tree.ret (.tup [.agg [.int .i64 r,.int .i64 p,.int .i64 t,.int .i64 i,F,.int .i64 u,W,Hd],X,.int .i64 k])).holds P ⟨w,H⟩ (RetD w H fun ds=>.tup [mbSV (ds 0) (ds 1) res.1,.dat ((ds 2).like res.2.1),.int .i64 res.2.2]) := by
 subst hr
 obtain ⟨d,h1,h2,h3,h4⟩ := hw
 obtain ⟨d',h1',h2',h3',h4'⟩ := hh
 obtain ⟨d'',h1'',h2'',h3'',h4''⟩ := hx
 refine ret_D (fun i=>match i with | 0=>d | 1=>d' | _=>d'') (fun E E'=>?_) (fun H' ho=>?_)
 ·have : F.den E = (SV.bool f).den E' := by rw [hf]; rfl
  simp only [SV.den,SV.denL,mbSV,D.like_self h2 h3,D.like_self h2' h3',D.like_self h2'' h3'',h1,h1',h1'',this]
 ·simp only [SV.Ok,SV.OkL,mbSV,D.like_self h2 h3,D.like_self h2' h3',D.like_self h2'' h3''] at ho ⊢
  exact ⟨⟨trivial,trivial,trivial,trivial,trivial,trivial,⟨h4 _ ho.1.2.2.2.2.2.2.1,h2.slc⟩,⟨h4' _ ho.1.2.2.2.2.2.2.2.1,h2'.slc⟩,trivial⟩,⟨h4'' _ ho.2.1,h2''.slc⟩,trivial,trivial⟩
end

theorem int_oneR (x : Int) : SRows Int [[.int .i64 x]] [x] := rows_one ⟨_,rfl⟩ rfl
end Sx

namespace Sv.B21

theorem ctDOk : Ctrs.Ok Try.prog ctD := by
 intro x hx
 simp only [ctD,List.mem_cons] at hx
 rcases hx with rfl | rfl | hx
 ·exact ctr74
 ·exact ctrOf_ok lawIx
 ·exact ctMOk _ hx

theorem lawRel1 : Law Try.prog 42 ((rdMb.two rdInt).sp spRls) := by
 refine law_in _ (by kernel_rfl) fun H w ⟨⟨r,p,t,i,f,u,wt,hd⟩,now⟩ hok hp=>?_
 have hR := hp _ (List.mem_singleton.2 rfl)
 have hR' := hR
 obtain ⟨hw,hh,lw,lh⟩ := hR
 simp only at hw hh lw lh
 clear hp hok
 apply exec_sound ctDOk 600
 rw [show (rdMb.two rdInt).canon (⟨r,p,t,i,f,u,wt,hd⟩,now) = [.agg [.int .i64 r,.int .i64 p,.int .i64 t,.int .i64 i,.bool f,.int .i64 u,.dat wt,.dat hd],.int .i64 now] from rfl,rel1_in]
 have bad : (¬checkMb ⟨r,p,t,i,f,u,wt.to Int,hd.to Int⟩ = 0 ∨ f = false ∨ u > now) → relMb ⟨r,p,t,i,f,u,wt.to Int,hd.to Int⟩ now = (⟨r,p,t,i,f,u,wt.to Int,hd.to Int⟩,[]) := fun h=>by rw [relMb,if_pos h]
 refine ⟨hR',fun hc=>?_,fun hc=>⟨fun h1=>?_,fun h1=>⟨fun h2=>?_,fun h2=>⟨⟨hh,by omega⟩,fun hs hs1=>?_⟩⟩⟩⟩
 ·simp only [bne_iff_ne,ne_eq] at hc
  exact ret_mb2 (fun _=>rfl) (stands_self hw) (stands_self hh) stands_nils (bad (.inl hc))
 ·simp only [Bool.not_eq_true'] at h1
  exact ret_mb2 (fun _=>rfl) (stands_self hw) (stands_self hh) stands_nils (bad (.inr (.inl h1)))
 ·simp only [decide_eq_true_eq] at h2
  exact ret_mb2 (fun _=>rfl) (stands_self hw) (stands_self hh) stands_nils (bad (.inr (.inr h2)))
 ·simp only [bne_eq_false_iff_eq] at hc
  simp only [Bool.not_eq_false'] at h1
  simp only [decide_eq_false_iff_not] at h2
  have hc : checkMb ⟨r,p,t,i,f,u,wt.to Int,hd.to Int⟩ = 0 := hc
  refine ret_mb2 lb_den (stands_self hw) stands_nils (stands_rows rfl (rows_of hh)) ?_
  show relMb ⟨r,p,t,i,f,u,wt.to Int,hd.to Int⟩ now = _
  rw [relMb,if_neg (by rintro (h | h | h); exact h hc; exact absurd (h1.symm.trans h) (by decide); exact h2 h)]
  rfl

theorem lawRel2 : Law Try.prog 43 ((rdMb.two rdInt).sp spRls) := by
 refine law_in _ (by kernel_rfl) fun H w ⟨⟨r,p,t,i,f,u,wt,hd⟩,now⟩ hok hp=>?_
 have hR := hp _ (List.mem_singleton.2 rfl)
 have hR' := hR
 obtain ⟨hw,hh,lw,lh⟩ := hR
 simp only at hw hh lw lh
 clear hp hok
 apply exec_sound ctDOk 600
 rw [show (rdMb.two rdInt).canon (⟨r,p,t,i,f,u,wt,hd⟩,now) = [.agg [.int .i64 r,.int .i64 p,.int .i64 t,.int .i64 i,.bool f,.int .i64 u,.dat wt,.dat hd],.int .i64 now] from rfl,rel2_in]
 have bad : (¬checkMb ⟨r,p,t,i,f,u,wt.to Int,hd.to Int⟩ = 0 ∨ f = false ∨ u > now) → relMb ⟨r,p,t,i,f,u,wt.to Int,hd.to Int⟩ now = (⟨r,p,t,i,f,u,wt.to Int,hd.to Int⟩,[]) := fun h=>by rw [relMb,if_pos h]
 refine ⟨hR',fun hc=>?_,fun hc=>⟨fun h1=>?_,fun h1=>⟨fun h2=>?_,fun h2=>⟨hR',fun hs=>?_⟩⟩⟩⟩
 ·simp only [bne_iff_ne,ne_eq] at hc
  exact ret_mb2 (fun _=>rfl) (stands_self hw) (stands_self hh) stands_nils (bad (.inl hc))
 ·simp only [Bool.not_eq_true'] at h1
  exact ret_mb2 (fun _=>rfl) (stands_self hw) (stands_self hh) stands_nils (bad (.inr (.inl h1)))
 ·simp only [decide_eq_true_eq] at h2
  exact ret_mb2 (fun _=>rfl) (stands_self hw) (stands_self hh) stands_nils (bad (.inr (.inr h2)))
 ·simp only [bne_eq_false_iff_eq] at hc
  simp only [Bool.not_eq_false'] at h1
  simp only [decide_eq_false_iff_not] at h2
  have hc : checkMb ⟨r,p,t,i,f,u,wt.to Int,hd.to Int⟩ = 0 := hc
  refine ret_mb2 (fun _=>rfl) stands_like stands_like stands_like ?_
  show relMb ⟨r,p,t,i,f,u,wt.to Int,hd.to Int⟩ now = _
  rw [relMb,if_neg (by rintro (h | h | h); exact h hc; exact absurd (h1.symm.trans h) (by decide); exact h2 h)]
  rfl

theorem lawDur1 : Law Try.prog 40 ((rdMb.two rdInt).sp spDur) := by
 refine law_in _ (by kernel_rfl) fun H w ⟨⟨r,p,t,i,f,u,wt,hd⟩,x⟩ hok hp=>?_
 have hR := hp _ (List.mem_singleton.2 rfl)
 have hR' := hR
 obtain ⟨hw,hh,lw,lh⟩ := hR
 simp only at hw hh lw lh
 have l1 := D.Is.length (α := Int) wt
 have l2 := rows_len (rows_of hw)
 have l3 := D.Is.length (α := Int) hd
 have l4 := rows_len (rows_of hh)
 clear hp hok
 apply exec_sound ctDOk 600
 rw [show (rdMb.two rdInt).canon (⟨r,p,t,i,f,u,wt,hd⟩,x) = [.agg [.int .i64 r,.int .i64 p,.int .i64 t,.int .i64 i,.bool f,.int .i64 u,.dat wt,.dat hd],.int .i64 x] from rfl,dur1_in]
 have hq : MbD.mb ⟨r,p,t,i,f,u,wt,hd⟩ = ⟨r,p,t,i,f,u,wt.to Int,hd.to Int⟩ := rfl
 simp only [hq]
 refine ⟨hR',fun hc=>?_,fun hc=>⟨⟨hw,by omega⟩,?_⟩⟩
 ·simp only [bne_iff_ne,ne_eq] at hc
  have h3 : checkMb ⟨r,p,t,i,f,u,wt.to Int,hd.to Int⟩ = 3 := (checkMb_or _).resolve_left hc
  rw [h3]
  exact ret_mb2I lb_den stands_nils stands_nils stands_nils (dur_bad hc)
 ·simp only [bne_eq_false_iff_eq] at hc
  rcases idxP_cases (wt.to Int) x with ⟨e1,e2⟩ | ⟨k,e1,hk,e2⟩
  ·simp only [e1]
   refine ⟨fun _=>?_,fun h=>(by cases h)⟩
   exact ret_mb2I lb_den stands_nils stands_nils stands_nils (dur_none hc e2)
  ·simp only [e1]
   have hwr : IntKind.i64.wrap ((k : Int) + 1) = ((k + 1 : Nat) : Int) := by rw [wrap64 (by omega) (by omega)]; omega
   have hmem : (wt.to Int).contains x = true := List.contains_iff_mem.2 (by rw [← e2]; exact List.getElem_mem hk)
   have hfil : (wt.to Int).filter (fun y=>y != x) = (wt.to Int).take k ++ (wt.to Int).drop (k + 1) := by
    have := filter_up (checkMb_up hc) hk
    simp only [e2] at this
    exact this
   simp only [hwr,Int.toNat_natCast]
   have hrw : ∀ h,Stands Int (.dat (.slc h 1 (List.append (List.take k (D.rows wt)) (List.drop (k + 1) (D.rows wt))))) ((wt.to Int).filter fun y=>y != x) := fun h=>by
    rw [hfil]; exact stands_rows rfl (rows_app (rows_take (rows_of hw) k) (rows_drop (rows_of hw) (k + 1)))
   refine ⟨fun h=>?_,fun _=>⟨⟨hw,by omega⟩,fun hs=>⟨⟨(is_of rfl (rows_of hw)).1,by omega,by omega,by simp only [len_slc]; omega⟩,fun hs1=>⟨fun h1 hs2=>?_,fun h1=>⟨⟨hh,by omega⟩,fun hs2 hs3=>⟨⟨rfl,.inr rfl,?_,?_⟩,fun hs4=>?_⟩⟩⟩⟩⟩⟩
   ·have := of_decide_eq_true h; omega
   ·simp only [Bool.not_eq_true'] at h1
    exact ret_mb2I (fun _=>rfl) (hrw _) (stands_self hh) (stands_rows rfl (int_oneR x)) (dur_free hc hmem h1)
   ·simp only [len_slc,List.length_cons,List.length_nil]; omega
   ·simp only [len_slc,List.length_cons,List.length_nil]; omega
   ·simp only [Bool.not_eq_false'] at h1
    have hra : SRows Int (List.append (D.rows hd) [[.int .i64 x]]) (hd.to Int ++ [x]) := rows_app (rows_of hh) (int_oneR x)
    exact ret_mb2I (fun _=>rfl) (hrw _) (stands_rows rfl hra) stands_nils (dur_held hc hmem h1)

theorem lawDur2 : Law Try.prog 41 ((rdMb.two rdInt).sp spDur) := by
 refine law_in _ (by kernel_rfl) fun H w ⟨⟨r,p,t,i,f,u,wt,hd⟩,x⟩ hok hp=>?_
 have hR := hp _ (List.mem_singleton.2 rfl)
 have hR' := hR
 obtain ⟨hw,hh,lw,lh⟩ := hR
 simp only at hw hh lw lh
 have l1 := D.Is.length (α := Int) wt
 have l2 := rows_len (rows_of hw)
 have l3 := D.Is.length (α := Int) hd
 have l4 := rows_len (rows_of hh)
 clear hp hok
 apply exec_sound ctDOk 600
 rw [show (rdMb.two rdInt).canon (⟨r,p,t,i,f,u,wt,hd⟩,x) = [.agg [.int .i64 r,.int .i64 p,.int .i64 t,.int .i64 i,.bool f,.int .i64 u,.dat wt,.dat hd],.int .i64 x] from rfl,dur2_in]
 have hq : MbD.mb ⟨r,p,t,i,f,u,wt,hd⟩ = ⟨r,p,t,i,f,u,wt.to Int,hd.to Int⟩ := rfl
 simp only [hq]
 refine ⟨hR',fun hc=>?_,fun hc=>⟨⟨hw,by omega⟩,fun h1=>?_,fun h1=>?_⟩⟩
 ·simp only [bne_iff_ne,ne_eq] at hc
  exact ret_mb2I lb_den stands_nils stands_nils stands_nils (dur_bad hc)
 ·simp only [bne_eq_false_iff_eq] at hc
  simp only [Bool.not_eq_true'] at h1
  exact ret_mb2I lb_den stands_nils stands_nils stands_nils (dur_none hc h1)
 ·simp only [bne_eq_false_iff_eq] at hc
  simp only [Bool.not_eq_false'] at h1
  refine vecTo 2 3 1 none 7 (durL r p t i u f wt hd x (.slc none 1 []) 0) (by kernel_rfl) ?_
  refine runs_loop (fun q : D × Nat=>durL r p t i u f wt hd x q.1 q.2) (fun q=>q.2 ≤ (wt.to Int).length ∧ q.1.Is Int ∧ q.1.sz = 1 ∧ q.1.to Int = ((wt.to Int).take q.2).filter fun y=>y != x)
   (fun q=>(wt.to Int).length - q.2) (fun _=>rfl) ?_ (.slc none 1 [],0) ⟨Nat.zero_le _,is_nil _ _,rfl,rfl⟩
  intro ⟨out,j⟩ ⟨hj,ho,hs,hto⟩ ih
  simp only at hj ho hs hto
  have lo := D.Is.length (α := Int) out
  have lo2 := rows_len (rows_of ho)
  have lo3 : (out.to Int).length ≤ j := by
   rw [hto]
   exact Nat.le_trans (List.length_filter_le _ _) (by rw [List.length_take]; exact Nat.min_le_left _ _)
  apply exec_sound ctDOk 600
  rw [durl_go]
  refine ⟨fun hcj=>?_,fun hcj=>?_⟩
  ·simp [l1] at hcj
   obtain ⟨c1,c2,c3⟩ := int_at hw hcj
   rw [c3]
   refine ⟨c1,c2,fun hb=>⟨c1,c2,fun hs1=>⟨⟨hs,.inr rfl,by simp only [len_slc,List.length_cons,List.length_nil]; omega,by simp only [len_slc,List.length_cons,List.length_nil]; omega⟩,fun hs2=>?_⟩⟩,fun hb=>?_⟩
   ·have hra : SRows Int (List.append (D.rows out) [[.int .i64 (wt.to Int)[j]]]) (out.to Int ++ [(wt.to Int)[j]]) := rows_app (rows_of ho) (int_oneR _)
    obtain ⟨i1,i2⟩ := is_of (h := D.hd (hs2 0 0)) (s := 1) rfl hra
    have := ih (.slc (D.hd (hs2 0 0)) 1 (List.append (D.rows out) [[.int .i64 (wt.to Int)[j]]]),j + 1) ⟨hcj,i1,rfl,i2.trans (by rw [hto,List.take_succ_eq_append_getElem hcj,List.filter_append,List.filter_cons]; simp [hb])⟩ (by simp only; omega)
    simp only at this
    rw [← wrap_succ hcj (by omega)] at this
    exact this
   ·have := ih (out,j + 1) ⟨hcj,ho,hs,by simp only; rw [hto,List.take_succ_eq_append_getElem hcj,List.filter_append,List.filter_cons]; simp [hb]⟩ (by simp only; omega)
    simp only at this
    rw [← wrap_succ hcj (by omega)] at this
    exact this
  ·simp [l1] at hcj
   have : j = (wt.to Int).length := by omega
   subst this
   rw [List.take_length] at hto
   refine ⟨fun hf hs1=>⟨⟨rfl,hh.fits,by simp only [len_slc,List.length_nil]; omega,by simp only [len_slc,List.length_nil]; omega⟩,fun hs2 hs3=>⟨⟨rfl,.inr rfl,?_,?_⟩,fun hs4=>?_⟩⟩,fun hf hs1=>?_⟩
   ·have e : (List.append (D.rows (D.slc (D.hd (hs1 0 0)) 1 [])) (D.rows hd)).length = hd.rows.length := rfl
    simp only [len_slc,e,List.length_cons,List.length_nil]; omega
   ·have e : (List.append (D.rows (D.slc (D.hd (hs1 0 0)) 1 [])) (D.rows hd)).length = hd.rows.length := rfl
    simp only [len_slc,e,List.length_cons,List.length_nil]; omega
   ·have hra : SRows Int (List.append (D.rows hd) [[.int .i64 x]]) (hd.to Int ++ [x]) := rows_app (rows_of hh) (int_oneR x)
    exact ret_mb2I (fun _=>rfl) (stands_dat ho hto) (stands_rows rfl hra) stands_nils (dur_held hc h1 hf)
   ·exact ret_mb2I (fun _=>rfl) (stands_dat ho hto) (stands_self hh) (stands_rows rfl (int_oneR x)) (dur_free hc h1 hf)
end Sv.B21
end
