/- Images: Apply's loop. -/
import Derived.Test.YtdiekahpofifeaaHT31toHT56
import Derived.Laws.CopyOwn
import Derived.Test.YtdiekahpofifeaaOvtoN16
import Derived.KernelRfl
set_option linter.all false
section
open Go Go.Proofs Sx
namespace Go.Proofs.Ytdiekahpofifeaa
set_option maxRecDepth 100000
set_option maxHeartbeats 0
theorem ctApOk : Ctrs.Ok Try.prog ctAp := by
  intro x hx
  rcases List.mem_cons.1 hx with rfl | hx
  · exact ctrOf_ok lawChkI
  · rw [List.mem_singleton.1 hx]; exact ctrOf_ok lawFits1
theorem cp_at : callAt (opsAt Try.prog 59 [1, 1, 1, 0, 1, 0, 0, 1, 1, 0, 0, 1, 1]) 10 = some (.copy, [.tmp 40, .tmp 42], [53, 53], some 43) := by kernel_rfl
theorem sec_ty : Try.prog.underlying 53 = some (.slice 105) := by kernel_rfl
theorem sec_sz : (Try.prog.info? 105).map (·.size) = some 8 := by kernel_rfl
def applyR (w0 : World) (H0 : HV) (r : List Vol × Int × Int) : Value → World → Prop := RetD w0 H0 fun ds => .tup [.dat ((ds 0).like r.1), .int .i64 r.2.1, .int .i64 r.2.2]
theorem ret_app {w0 w : World} {H0 H : HV} (a : After w0 H0 w H) {X : SV} {vs : List Vol} {k m : Int} (hx : Stands Vol X vs) : (Tree.ret (.tup [X, .int .i64 k, .int .i64 m])).holds Try.prog ⟨w, H⟩ (applyR w0 H0 (vs, k, m)) := by
  obtain ⟨d, k1, k2, k3, k4⟩ := hx
  refine ⟨rfl, fun E H' w' g hv => ⟨H', a.trans (after_good g), fun _ => d, fun E' => ?_, ?_⟩⟩
  · simp only [SV.den, SV.denL, k1, D.like_self k2 k3]
  · simp only [SV.Ok, SV.OkL] at hv ⊢
    rw [D.like_self k2 k3]
    exact ⟨⟨k4 _ hv.1, k2.slc⟩, trivial, trivial, trivial⟩
theorem ap_loop {w0 : World} {H0 : HV} (hin0 : InMem H0 w0) {l : D} (hl : l.Ok H0) (li : l.Is Wt) (ll : l.len ≤ 1048576) (ld : ∀ w, w ∈ l.to Wt → w.data.length ≤ 1048576) :
    ∀ (k j : Nat) (o : D) (H : HV) (w : World), j ≤ (l.to Wt).length → (l.to Wt).length - j = k → After w0 H0 w H → ImgW w0.heap.size H w o → sizesErr (volSizes (o.to Vol)) = 0 →
      At Try.prog (apL o l j) H w (applyR w0 H0 (applyV j ((l.to Wt).drop j) (o.to Vol))) := by
  intro k
  induction k with
  | zero =>
    intro j o H w hj hk a hI hz
    have wl := D.Is.length (α := Wt) l
    refine at_of_runs rfl (unroll_sound rfl (goM_sound ctApOk [] [(59, MidK.copy)] 300 _ ?_))
    rw [apl_go]
    refine ⟨fun hc => ?_, fun hc => ?_⟩
    · exfalso; have := of_decide_eq_true hc; omega
    · rw [List.drop_eq_nil_of_le (by omega)]
      exact ret_app a (stands_dat hI.is rfl)
  | succ k ih =>
    intro j o H w hj hk a hI hz
    have wl := D.Is.length (α := Wt) l
    have ol := D.Is.length (α := Vol) o
    have hjl : j < (l.to Wt).length := by omega
    have hsz := sizes_len hz
    rw [vs_len] at hsz
    refine at_of_runs rfl (unroll_sound rfl (goM_sound ctApOk [] [(59, MidK.copy)] 300 _ ?_))
    rw [apl_go]
    have hdrop : (l.to Wt).drop j = (l.to Wt)[j] :: (l.to Wt).drop (j + 1) := List.drop_eq_getElem_cons hjl
    rw [hdrop]
    obtain ⟨c1, c2, c3⟩ := wt_cell li hjl
    have c2 : (D.cell l (Int.toNat (j : Int)) 2).Is Sec := c2
    have hdl := ld _ (List.getElem_mem hjl)
    have e0 : (WtD.mk (D.getInt l (Int.toNat (j : Int)) 0) (D.getInt l (Int.toNat (j : Int)) 1) (D.cell l (Int.toNat (j : Int)) 2)).wt = (l.to Wt)[j] := c3.symm
    have hdd : (D.cell l (Int.toNat (j : Int)) 2).len ≤ 1048576 := by
      rw [D.Is.length (α := Sec)]
      have := congrArg (fun w => w.data.length) e0
      simp only [WtD.wt] at this
      rw [this]; exact hdl
    have hIm : ImgOk o := ⟨hI.is, by omega, fun v hv => by
      have hm : (v.l.length : Int) ∈ volSizes (o.to Vol) := List.mem_map.2 ⟨v, hv, rfl⟩
      have := hsz.2 _ hm; omega⟩
    rw [e0]
    refine ⟨fun hc => ⟨⟨by omega, by omega, li.size hjl⟩, c1, ⟨hIm, c2, hdd⟩, fun he => ?_, fun he hs0 => ?_⟩, fun hc => ?_⟩
    · have he : fitsErr (volSizes (o.to Vol)) (l.to Wt)[j] ≠ 0 := by simpa using he
      unfold applyV
      rw [if_pos he]
      exact ret_app a stands_nils
    · have he : fitsErr (volSizes (o.to Vol)) (l.to Wt)[j] = 0 := by simpa using he
      obtain ⟨f1, f2, f3, f4, f5⟩ := fits_ok he
      have ev : D.getInt l (Int.toNat (j : Int)) 0 = ((l.to Wt)[j]).vol := by rw [← e0]; rfl
      have es : D.getInt l (Int.toNat (j : Int)) 1 = ((l.to Wt)[j]).start := by rw [← e0]; rfl
      have ed : (D.cell l (Int.toNat (j : Int)) 2).to Sec = ((l.to Wt)[j]).data := by rw [← e0]; rfl
      have hap : applyV j ((l.to Wt)[j] :: (l.to Wt).drop (j + 1)) (o.to Vol) = applyV (j + 1) ((l.to Wt).drop (j + 1)) (putW (o.to Vol) (l.to Wt)[j]) := by
        conv => lhs; unfold applyV
        rw [if_neg (by simp [he])]
      rw [hap]
      have hps := putW_sizes he
      generalize hw : (l.to Wt)[j] = wr at *
      obtain ⟨V, hV⟩ := Int.eq_ofNat_of_zero_le f1
      obtain ⟨S, hS⟩ := Int.eq_ofNat_of_zero_le f4
      have hVl : V < o.len := by rw [hV] at f2; rw [ol]; simpa using f2
      obtain ⟨r1, r2, r3⟩ := vol_row hI.is hVl
      have hVg : (o.to Vol).getD V ⟨[]⟩ = ⟨(o.cell V 0).to Sec⟩ := by rw [List.getD_eq_getElem?_getD, r3]; rfl
      have il := D.Is.length (α := Sec) (o.cell V 0)
      have dl := D.Is.length (α := Sec) (D.cell l (Int.toNat (j : Int)) 2)
      rw [ed] at dl
      have f5 : S + wr.data.length ≤ (o.cell V 0).len := by
        rw [hV, hS] at f5
        simp only [Int.toNat_natCast] at f5
        rw [hVg] at f5
        rw [il]; exact f5
      rw [ev, es, hV, hS, Int.toNat_natCast V, Int.toNat_natCast S]
      obtain ⟨ci, hci⟩ := hI.hd V hVl
      refine ⟨⟨by omega, by omega, hI.sz⟩, ?_, ⟨by omega, by omega, by omega, r2.fits⟩, ?_⟩
      · obtain ⟨q1, q2, q3, q4, _⟩ := r2
        exact ⟨q1, q2, q3, by simp only [D.cellAt, r1, Option.bind_some, List.getElem?_cons_zero, ← q4]⟩
      · -- the copy
        generalize hwd : D.cell l (Int.toNat (j : Int)) 2 = wd at *
        intro E H1 w1 g1 ok1
        have a1 := after_good g1
        have hI1 := hI.mono a1
        have wdok : wd.Ok H1 := by rw [← hwd]; exact (cell_okd hl).mono (a.le.trans a1.le)
        obtain ⟨cur, t, hg⟩ := hI1.live V hVl
        have hrs := (rows_of c2).1
        have hsl : S + wd.rows.length ≤ (o.cell V 0).len := by
          have : wd.rows.length = wr.data.length := dl
          rw [this]; exact f5
        obtain ⟨H2, p1, p2, p3, p4, p5, p6⟩ := hI1.put hVl hrs hsl g1.cell hg rfl
        have h8 : ∀ r, r ∈ wd.rows → r.length = 8 := fun r hr => (sec_plain hI1 hVl hrs hsl (hrs r hr)).1
        have hlen8 : (flat wd.rows).length = wd.rows.length * 8 := flat_len h8
        have hbn := hI1.low V hVl
        have ao : After w0 H0 (w1.setRow (blk o V) (cur.toList.take (S * 8) ++ flat wd.rows ++ cur.toList.drop (S * 8 + (flat wd.rows).length)).toArray) H2 := by
          have a01 := a.trans a1
          refine ⟨below_setRow a01.below hbn _, p3 H0 a01.le fun x => ?_, fun b x u hb => ?_, p1⟩
          · cases hx : H0 (blk o V) x with
            | none => rfl
            | some u =>
              have := hin0 _ _ _ hx
              have : blk o V < w0.heap.size := by
                unfold World.cell? at this
                simp only at this
                cases hh : w0.heap[blk o V]? with
                | none => rw [hh] at this; cases this
                | some q => exact (Array.getElem?_eq_some_iff.1 hh).1
              omega
          · rcases p4 b x u hb with h | h
            · exact a01.fresh b x u h
            · exact .inr (by rw [h]; exact hbn)
        have hisz : (o.cell V 0).sz = 8 := r2.size (i := 0) (by rw [← il]; have : wd.rows.length = wr.data.length := dl; omega)
        have hcap : (o.cell V 0).len ≤ ci := by
          have hq : (o.cell V 0).Ok H := by
            have := cell_okd hI.ok (i := V) (j := 0)
            exact this
          revert hci
          generalize o.cell V 0 = q at hq
          intro hci
          cases hq with
          | slc a c sz rows hsp hc hlen hcell hk => simp only [D.hd, Option.some.injEq, Prod.mk.injEq] at hci; rw [← hci.2]; exact hc
          | nil sz => simp [D.hd] at hci
          | int _ _ => simp [D.hd] at hci
          | bool _ => simp [D.hd] at hci
          | str _ => simp [D.hd] at hci
        have hpos : 0 < wd.rows.length := by
          have : wd.rows.length = wr.data.length := dl
          omega
        have hsub : (D.sub (o.cell V 0) S (Int.toNat ((o.cell V 0).len : Int))).val = .slice (some ⟨blk o V, S * 8, none⟩) ((o.cell V 0).len - S) (ci - S) := by
          unfold D.sub
          rw [hci, hisz]
          simp only [D.val, Option.map_some, hval]
          have hne : ¬ci = S := by omega
          rw [if_neg hne, add_none rfl, Int.toNat_natCast, List.length_take, List.length_drop]
          have : (o.cell V 0).rows.length = (o.cell V 0).len := rfl
          rw [this, Nat.min_self, Nat.zero_add]
        obtain ⟨wh, wz, wrows, rfl, wz1, wz2⟩ := c2
        have hwne : wrows ≠ [] := fun e => by rw [e] at hpos; simp [D.rows] at hpos
        have wz1 : wz = 8 := wz1.resolve_left hwne
        subst wz1
        have hreads := reads_data g1.cell wdok
        obtain ⟨q1, q2⟩ := hreads
        rcases q2 with ⟨_, q2⟩ | ⟨wa, wc, q2, q3⟩
        · exact absurd q2 hwne
        have hmin : Nat.min wrows.length ((o.cell V 0).len - S) = wrows.length := Nat.min_eq_left (by
          have : (D.slc wh 8 wrows).rows.length = wrows.length := rfl
          omega)
        have e40 : ∀ E, (SV.dat (D.sub (o.cell V 0) S (Int.toNat ((o.cell V 0).len : Int)))).den E = .slice (some ⟨blk o V, S * 8, none⟩) ((o.cell V 0).len - S) (ci - S) := fun E => by simp only [SV.den]; exact hsub
        have e42 : ∀ E, (SV.dat (D.slc wh 8 wrows)).den E = .slice (some wa) wrows.length wc := fun E => by simp only [SV.den]; exact q2
        refine stk_builtin (u := goInt (Nat.min wrows.length ((o.cell V 0).len - S))) (w' := w1.setRow (blk o V) (cur.toList.take (S * 8) ++ flat wrows ++ cur.toList.drop (S * 8 + (flat wrows).length)).toArray) (E' := E) cp_at (fun ty => ?_) (fun _ _ _ => rfl) ?_
        · have hrun' := run_copy_sz (P := Try.prog) w1 53 53 ty 105 (blk o V) (S * 8) ((o.cell V 0).len - S) (ci - S) wa wrows.length wc 8 cur t (flat wrows) sec_ty sec_sz hg (by rw [hmin]; exact hlen8) q3 p5 (flat_one _)
          show (builtin .copy _ ty #[] #[(SV.dat (D.sub (o.cell V 0) S (Int.toNat ((o.cell V 0).len : Int)))).den E, (SV.dat (D.slc wh 8 wrows)).den E]).run _ _ = _
          rw [e40, e42]
          simp only [builtin, Sem.run_bind, Result.andThen_ok, Sem.run_pure]
          rw [hrun']
          rfl
        · have hpv : (o.putSec V S wrows).val = o.val := put_val hI1 hVl hrs hsl
          have hto : (o.putSec V S wrows).to Vol = (o.to Vol).set V ⟨((o.cell V 0).to Sec).take S ++ wrows.map Codec.dec ++ ((o.cell V 0).to Sec).drop (S + wrows.length)⟩ := put_to hI1 hVl hrs hsl
          have hput : (o.putSec V S wrows).to Vol = putW (o.to Vol) wr := by
            rw [hto]
            unfold putW
            rw [hV, hS, Int.toNat_natCast, Int.toNat_natCast, hVg, ← ed]
            simp only [D.to, D.rows, List.length_map]
          refine stk_to (E := E) (sl := [(8, .dat (o.putSec V S wrows)), (19, .dat l), (20, .int .i64 (l.len : Int)), (21, .int .i64 (j : Int))]) (n := 46) rfl (fun p hp => ?_) (fun p hp => ?_) p1 (at_of_runs rfl (goM_sound ctApOk [] [] 300 _ ?_))
          · simp only [List.mem_cons, List.not_mem_nil, or_false] at hp
            rcases hp with rfl | rfl | rfl | rfl
            · simp only [SV.den]; rw [hpv]; rfl
            · rfl
            · rfl
            · rfl
          · simp only [List.mem_cons, List.not_mem_nil, or_false] at hp
            rcases hp with rfl | rfl | rfl | rfl
            · exact ⟨p2.ok, p2.is.slc⟩
            · exact ⟨hl.mono ao.le, li.slc⟩
            · trivial
            · trivial
          · show (goM Try.prog ctAp [] [] 300 (apB (o.putSec V S wrows) l j)).holds _ _ _
            rw [apb_go, wrap_succ hjl (by omega)]
            intro E3 H3 w3 g3 ok3
            have a3 := after_good g3
            have := ih (j + 1) (o.putSec V S wrows) H3 w3 hjl (by omega) (ao.trans a3) (p2.mono a3) (by rw [hput, hps]; exact hz)
            rw [hput] at this
            exact this E3 ok3 g3.cell
    · exfalso; have := of_decide_eq_false hc; omega
end Go.Proofs.Ytdiekahpofifeaa
end
section
open Go Go.Proofs Sx
namespace Go.Proofs.Ytdiekahpofifeaa
set_option maxRecDepth 100000
set_option maxHeartbeats 0
theorem mc_at : callAt (opsAt Try.prog 86 [1, 1, 0, 1, 0, 0, 1, 1, 0, 0, 1]) 5 = some (.append, [.tmp 17, .tmp 21], [44, 44], some 22) := by kernel_rfl
theorem img_ty : Try.prog.underlying 44 = some (.slice 53) := by kernel_rfl
theorem sec_info : ∃ i z, Try.prog.info? 53 = some i ∧ i.zero = some z ∧ z.cells.size = i.size ∧ i.size = 1 ∧ i.bytes ≤ 1000 := by
  have h : ((Try.prog.info? 53).any fun i => (i.zero.any fun z => z.cells.size == i.size) && i.size == 1 && decide (i.bytes ≤ 1000)) = true := by kernel_rfl
  cases hi : Try.prog.info? 53 with
  | none => rw [hi] at h; cases h
  | some i =>
    rw [hi] at h
    simp only [Option.any_some, Bool.and_eq_true, beq_iff_eq, decide_eq_true_eq] at h
    obtain ⟨⟨h1, h2⟩, h3⟩ := h
    cases hz : i.zero with
    | none => rw [hz] at h1; cases h1
    | some z =>
      rw [hz] at h1
      simp only [Option.any_some, beq_iff_eq] at h1
      exact ⟨i, z, rfl, hz, h1, h2, h3⟩
theorem mc_loop {w0 : World} {H0 : HV} {im : D} (him : im.Is Vol) (hok : im.Ok H0) (hsz : ∀ v, v ∈ im.to Vol → 1 ≤ v.l.length ∧ v.l.length ≤ 1048576) (hlen : im.len ≤ 1048576) (hpos : 0 < im.len) :
    ∀ (k j : Nat) (ov : Value) (ds : List D) (H : HV) (w : World), j ≤ im.len → im.len - j = k → After w0 H0 w H → BuildI w0.heap.size H w 53 ov ds → ds.map (fun d => Vol.mk (d.to Sec)) = (im.to Vol).take j →
      At Try.prog (mcL im (.raw ov) j) H w (CpR w0 H0 (im.to Vol)) := by
  intro k
  induction k with
  | zero =>
    intro j ov ds H w hj hk a b hto
    have il := D.Is.length (α := Vol) im
    refine at_of_runs rfl (unroll_sound rfl (goM_sound (noCtr _) [] [(86, MidK.build)] 300 _ ?_))
    rw [mc_in]
    refine ⟨fun hc => ?_, fun hc => ?_⟩
    · exfalso; have := of_decide_eq_true hc; omega
    · rw [List.take_of_length_le (by omega)] at hto
      refine ret_img a b (fun e => ?_) hto
      have := congrArg List.length hto
      rw [e] at this
      simp only [List.map_nil, List.length_nil] at this
      omega
  | succ k ih =>
    intro j ov ds H w hj hk a b hto
    have il := D.Is.length (α := Vol) im
    have hjl : j < im.len := by omega
    obtain ⟨r1, r2, r3⟩ := vol_row him hjl
    have hv : Vol.mk ((im.cell j 0).to Sec) ∈ im.to Vol := List.mem_of_getElem? r3
    have hvl := hsz _ hv
    have cl := D.Is.length (α := Sec) (im.cell j 0)
    have hcl : 1 ≤ (im.cell j 0).len ∧ (im.cell j 0).len ≤ 1048576 := by rw [cl]; exact hvl
    refine at_of_runs rfl (unroll_sound rfl (goM_sound (noCtr _) [] [(86, MidK.build)] 300 _ ?_))
    rw [mc_in]
    refine ⟨fun hc => ⟨⟨by omega, by omega, him.size (i := j) (by rw [← il]; exact hjl)⟩, ?_, fun hn => ?_, fun hn => ?_⟩, fun hc => ?_⟩
    · obtain ⟨q1, q2, q3, q4, _⟩ := r2
      rw [Int.toNat_natCast]
      exact ⟨q1, q2, q3, by simp only [D.cellAt, r1, Option.bind_some, List.getElem?_cons_zero, ← q4]⟩
    · exfalso
      have hq : (im.cell j 0).Ok H0 := cell_okd hok
      have hn : (im.cell (Int.toNat (j : Int)) 0).isNil = true := hn
      rw [Int.toNat_natCast] at hn
      revert hcl hn
      generalize im.cell j 0 = q at hq
      intro hcl hn
      cases hq with
      | slc a c sz rows hsp hc hlen hcell hk => cases hn
      | nil sz => simp [D.len, D.rows] at hcl
      | int _ _ => simp [D.len, D.rows] at hcl
      | bool _ => simp [D.len, D.rows] at hcl
      | str _ => simp [D.len, D.rows] at hcl
    · intro hs
      rw [Int.toNat_natCast]
      refine ⟨⟨rfl, r2.fits, ?_, ?_⟩, fun hs1 => ?_⟩
      · show (0 + (im.cell j 0).len) * 8 ≤ _; omega
      · show 0 + (im.cell j 0).len ≤ _; omega
      · intro E1 H1 w1 g1 ok1
        obtain ⟨H2, a2, _, hin2, hden⟩ := pub_inner g1 (k := 2007) (d := D.slc (D.hd (hs1 0 0)) 8 (List.append (D.rows (D.slc (D.hd (hs 0 0)) 8 [])) (D.rows (D.cell im j 0)))) rfl (is_rows rfl fun r hr => (rows_of r2).1 r hr) (fun e => by
          have : (im.cell j 0).len = 0 := congrArg List.length (show (im.cell j 0).rows = [] from e)
          omega)
        generalize hd : D.slc (D.hd (hs1 0 0)) 8 (List.append (D.rows (D.slc (D.hd (hs 0 0)) 8 [])) (D.rows (D.cell im j 0))) = d at *
        have hdto : d.to Sec = (im.cell j 0).to Sec := by rw [← hd]; rfl
        have a02 := a.trans a2
        have b2 := b.mono a2
        have hin0 := hin2.low (n' := w0.heap.size) a.below.size
        refine stk_to (E := E1) (sl := [(1, .fn 67 [] []), (11, .dat im), (12, .int .i64 (im.len : Int)), (13, .int .i64 j), (17, .raw ov), (20, .dat d)]) (n := 25) rfl (fun p hp => ?_) (fun p hp => ?_) a2.cell (at_of_runs rfl (goM_sound (noCtr _) [] [(86, MidK.append)] 300 _ ?_))
        · simp only [List.mem_cons, List.not_mem_nil, or_false] at hp
          rcases hp with rfl | rfl | rfl | rfl | rfl | rfl
          · rfl
          · rfl
          · rfl
          · rfl
          · rfl
          · simp only [SV.den]; rw [← hden]; rfl
        · simp only [List.mem_cons, List.not_mem_nil, or_false] at hp
          rcases hp with rfl | rfl | rfl | rfl | rfl | rfl
          · exact ⟨trivial, trivial⟩
          · exact ⟨hok.mono a02.le, him.slc⟩
          · trivial
          · trivial
          · trivial
          · exact ⟨hin2.2.1, hin2.1.slc⟩
        · show (goM Try.prog [] [] [(86, MidK.append)] 300 (mcB im d (.raw ov) j)).holds _ _ _
          rw [mcb_go]
          intro hs2 E3 H3 w3 g3 ok3
          obtain ⟨i, z, q1, q2, q3, q4, q5⟩ := sec_info
          have hdl : ds.length = j := by
            have := congrArg List.length hto
            rw [List.length_map, List.length_take] at this
            omega
          obtain ⟨w4, ov', hrun, a4, b4⟩ := build_append (P := Try.prog) (ty := 44) (k := 1021) (hh := D.hd (hs2 0 0)) (d := d) img_ty q1 q2 q3 q4 q5 a02 b2 hin0 (innerOk.fresh hin2 b) g3 rfl (by omega) (key := 7777) rfl
          refine stk_builtin (u := ov') (w' := w4) (E' := E3) mc_at (fun ty => ?_) (fun _ _ _ => rfl) ?_
          · have := hrun
            show (builtin .append _ ty #[] #[(SV.raw ov).den E3, (SV.vec 1021).den E3]).run _ _ = _
            simp only [builtin, Sem.run_bind, Result.andThen_ok, Sem.run_pure]
            show Result.andThen (Sem.run Try.prog (Builtin.append_ #[44, 44] 44 #[ov, (SV.vec 1021).den E3]) w3) _ = _
            rw [this]
            rfl
          · refine stk_to (E := E3) (sl := [(1, .fn 67 [] []), (11, .dat im), (12, .int .i64 (im.len : Int)), (13, .int .i64 j), (22, .raw ov')]) (n := 25) rfl (fun p hp => ?_) (fun p hp => ?_) a4.cell (at_of_runs rfl (goM_sound (noCtr _) [] [] 300 _ ?_))
            · simp only [List.mem_cons, List.not_mem_nil, or_false] at hp
              rcases hp with rfl | rfl | rfl | rfl | rfl <;> rfl
            · simp only [List.mem_cons, List.not_mem_nil, or_false] at hp
              rcases hp with rfl | rfl | rfl | rfl | rfl
              · exact ⟨trivial, trivial⟩
              · exact ⟨hok.mono a4.le, him.slc⟩
              · trivial
              · trivial
              · trivial
            · show (goM Try.prog [] [] [] 300 (mcC im (.raw ov') j)).holds _ _ _
              rw [mcc_go, wrap_succ hjl (by omega)]
              intro E5 H5 w5 g5 ok5
              have a5 := after_good g5
              refine ih (j + 1) ov' (ds ++ [d]) H5 w5 hjl (by omega) (a4.trans a5) (b4.mono a5) ?_ E5 ok5 g5.cell
              rw [List.map_append, hto, List.take_add_one, r3]
              simp only [List.map_cons, List.map_nil, hdto, Option.toList_some]
    · exfalso; have := of_decide_eq_false hc; omega
theorem cp_all {H : HV} {w : World} {im : D} (hin : InMem H w) (him : im.Is Vol) (hok : im.Ok H) (hsz : ∀ v, v ∈ im.to Vol → 1 ≤ v.l.length ∧ v.l.length ≤ 1048576) (hlen : im.len ≤ 1048576) (hpos : 0 < im.len) :
    At Try.prog (cpA im) H w (CpR w H (im.to Vol)) := by
  refine at_of_runs rfl (goM_sound (noCtr _) [] [] 300 _ ?_)
  rw [cpa_go]
  refine ⟨⟨by omega, by omega, by omega, by omega⟩, fun hs => ?_⟩
  intro E1 H1 w1 g1 ok1
  have a1 := after_good g1
  have b1 : BuildI w.heap.size H1 w1 53 ((SV.vec 0).den E1) [] := buildI_own g1 (hh := D.hd (hs 0 0)) rfl
  generalize hov : (SV.vec 0).den E1 = ov at b1
  refine stk_call (E := E1) (sl := [(1, .fn 67 [] []), (5, .raw ov), (11, .dat im), (12, .int .i64 (im.len : Int)), (13, .int .i64 0)]) (n := 25) rfl (fun p hp => ?_) (fun p hp => ?_) a1.cell (R1 := CpR w H (im.to Vol)) ?_ ?_
  · simp only [List.mem_cons, List.not_mem_nil, or_false] at hp
    rcases hp with rfl | rfl | rfl | rfl | rfl
    · rfl
    · simp only [SV.den]; rw [← hov]; rfl
    · rfl
    · rfl
    · rfl
  · simp only [List.mem_cons, List.not_mem_nil, or_false] at hp
    rcases hp with rfl | rfl | rfl | rfl | rfl
    · exact ⟨trivial, trivial⟩
    · trivial
    · exact ⟨hok.mono a1.le, him.slc⟩
    · trivial
    · trivial
  · exact mc_loop him hok hsz hlen hpos im.len 0 ov [] H1 w1 (Nat.zero_le _) (by omega) a1 b1 rfl
  · intro u w2 ⟨H2, o, a2, hI, hu, hto⟩
    refine stk_aw (aw := none) (stk_to (E := E1) (sl := [(4, .raw o.val)]) (n := 5) rfl (fun p hp => ?_) (fun p hp => ?_) a2.cell (at_of_runs rfl (goM_sound (noCtr _) [] [] 300 _ ?_)))
    · rw [List.mem_singleton.1 hp, ← hu]; rfl
    · rw [List.mem_singleton.1 hp]; trivial
    · show (goM Try.prog [] [] [] 300 (cpB (.raw o.val))).holds _ _ _
      rw [cpb_go]
      exact ⟨rfl, fun E H' w' g hv => ⟨H', o, a2.trans (after_good g), hI.mono (after_good g), rfl, hto⟩⟩
theorem lawApply : Law Try.prog 59 ((rdD.two rdD).sp spApplyI) := by
  refine law_in _ (by kernel_rfl) fun H w b hok hp => ?_
  obtain ⟨im, l⟩ := b
  obtain ⟨p1, p2, p3, p4, p5⟩ := hp _ (List.mem_singleton.2 rfl)
  apply goM_sound ctApOk [(77, 0), (77, 1), (77, 2), (77, 3)] [] 300
  rw [show (rdD.two rdD).canon (im, l) = [.dat im, .dat l] from rfl, apc_in]
  have p2 : im.len ≤ 1048576 := p2
  have il := D.Is.length (α := Vol) im
  refine ⟨⟨p1, p2⟩, fun hc => ?_, fun hc => ?_⟩
  · have hc : sizesErr (volSizes (im.to Vol)) ≠ 0 := by simpa using hc
    obtain ⟨d, k1, k2, k3, k4⟩ := stands_nils (α := Vol)
    refine ⟨rfl, fun E H' w' g hv => ⟨H', after_good g, fun _ => d, fun E' => ?_, ?_⟩⟩
    · simp only [applyI, if_pos hc, SV.den, SV.denL, D.like_self k2 k3]
      rw [← k1 E]; rfl
    · simp only [SV.Ok, SV.OkL] at hv ⊢
      simp only [applyI, if_pos hc]
      rw [D.like_self k2 k3]
      exact ⟨⟨k4 _ hv.1, k2.slc⟩, trivial, trivial, trivial⟩
  · have hc : sizesErr (volSizes (im.to Vol)) = 0 := by simpa using hc
    have hsz := sizes_len hc
    rw [vs_len] at hsz
    have hpos : 0 < im.len := by
      rw [il]
      cases hl : im.to Vol with
      | nil => rw [hl] at hc; exact absurd hc (by decide)
      | cons x r => exact Nat.succ_pos _
    intro E1 H1 w1 g1 ok1
    have a1 := after_good g1
    have him : im.Ok H1 := hok.1.1.mono a1.le
    have hl : l.Ok H1 := hok.2.1.1.mono a1.le
    refine stk_call (E := E1) (sl := [(0, .dat im)]) (n := 5) rfl (fun p hp => ?_) (fun p hp => ?_) g1.cell (R1 := CpR w1 H1 (im.to Vol)) ?_ ?_
    · rw [List.mem_singleton.1 hp]; rfl
    · rw [List.mem_singleton.1 hp]; exact ⟨him, p1.slc⟩
    · exact cp_all g1.cell p1 him (fun v hv => by
        have hm : (v.l.length : Int) ∈ volSizes (im.to Vol) := List.mem_map.2 ⟨v, hv, rfl⟩
        have := hsz.2 _ hm; omega) p2 hpos
    · intro u w2 ⟨H2, o, a2, hI, hu, hto⟩
      have hE : At Try.prog (apE o l) H2 w2 (applyR w1 H1 (applyV 0 (l.to Wt) (im.to Vol))) := by
        refine at_of_runs rfl (goM_sound (noCtr _) [] [] 300 _ ?_)
        rw [ape_go]
        intro E4 H4 w4 g4 ok4
        have a4 := after_good g4
        have := ap_loop g1.cell hl p3 p4 p5 (l.to Wt).length 0 o H4 w4 (Nat.zero_le _) (by omega) (a2.trans a4) (hI.mono a4) (by rw [hto]; exact hc)
        rw [List.drop_zero, hto] at this
        exact stk_aw (this E4 ok4 g4.cell)
      refine StkRun.mono (R := applyR w1 H1 (applyV 0 (l.to Wt) (im.to Vol))) ?_ ?_
      · intro u' w3 ⟨H3, a3, ds, hu3, hok3⟩
        refine ⟨H3, a1.trans a3, ds, fun E => ?_, ?_⟩
        · unfold applyI
          rw [if_neg (by simp [hc])]
          exact hu3 E
        · unfold applyI
          rw [if_neg (by simp [hc])]
          exact hok3
      · refine stk_aw (aw := none) ?_
        refine stk_to (E := E1) (sl := [(1, .dat l), (18, .dat o)]) (n := 46) rfl (fun p hp => ?_) (fun p hp => ?_) a2.cell hE
        · simp only [List.mem_cons, List.not_mem_nil, or_false] at hp
          rcases hp with rfl | rfl
          · rfl
          · simp only [SV.den]; rw [← hu]; rfl
        · simp only [List.mem_cons, List.not_mem_nil, or_false] at hp
          rcases hp with rfl | rfl
          · exact ⟨hl.mono a2.le, p3.slc⟩
          · exact ⟨hI.ok, hI.is.slc⟩
end Go.Proofs.Ytdiekahpofifeaa
end
section
namespace Sx
open Go
end Sx
end
section
namespace Sx
open Go
theorem volSizes_fold : ∀ (l : List Wt) (im : List Vol), (∀ w, w ∈ l → fitsErr (volSizes im) w = 0) → volSizes (l.foldl putW im) = volSizes im
  | [], _, _ => rfl
  | w :: r, im, h => by
    have h1 := putW_sizes (h w List.mem_cons_self)
    show volSizes (r.foldl putW (putW im w)) = _
    rw [volSizes_fold r _ fun x hx => by rw [h1]; exact h x (List.mem_cons_of_mem _ hx), h1]
theorem imageH_sizes {h : Hist} {s : List Int} (h0 : (checkH h).1 = 0) (h2 : setH s h.writes.length = true) : volSizes (imageH h s).1 = h.sizes := by
  obtain ⟨k1, k2, k3, k4, k5⟩ := checkH_iff.1 h0
  rw [imageH_ok h0 h2]
  have e := volSizes_imgOf k1
  rw [volSizes_fold _ _ fun w hw => by rw [e]; exact k3 w (pickW_mem (setH_iff.1 h2).2 hw), e]
theorem imageH_small {h : Hist} {s : List Int} (h0 : (checkH h).1 = 0) (h2 : setH s h.writes.length = true) : (imageH h s).1.length ≤ 1048576 ∧ ∀ v, v ∈ (imageH h s).1 → v.l.length ≤ 1048576 := by
  have e := imageH_sizes h0 h2
  have hs := sizesErr_ok (checkH_iff.1 h0).1
  constructor
  · have := congrArg List.length e
    rw [vs_len] at this
    omega
  · intro v hv
    have hm : (v.l.length : Int) ∈ volSizes (imageH h s).1 := List.mem_map.2 ⟨v, hv, rfl⟩
    rw [e] at hm
    have := hs.2.2 _ hm
    omega
theorem rest_histOk {h : Hist} {s : List Int} (hk : HistOk h) (hs : s.length ≤ 1000) : HistOk (restrictH h s).1 := by
  obtain ⟨k1, k2, k3, k4⟩ := hk
  unfold restrictH
  split
  · exact ⟨by simp [zHist], by simp [zHist], by simp [zHist], by simp [zHist]⟩
  · split
    · exact ⟨by simp [zHist], by simp [zHist], by simp [zHist], by simp [zHist]⟩
    · split
      · exact ⟨by simp [zHist], by simp [zHist], by simp [zHist], by simp [zHist]⟩
      · rename_i a b c
        have b : setH s h.writes.length = true := by simpa using b
        refine ⟨k1, by simp only [pickW_len]; omega, Nat.le_trans (restE_len b _) k3, fun w hw => k4 w (pickW_mem (setH_iff.1 b).2 hw)⟩
end Sx
end
section
namespace Sx
open Go RowKit
def putP (im : List Vol) (w : Wt) (k : Nat) : List Vol :=
  im.set w.vol.toNat ⟨(im.getD w.vol.toNat ⟨[]⟩).l.take w.start.toNat ++ w.data.take k ++ (im.getD w.vol.toNat ⟨[]⟩).l.drop (w.start.toNat + k)⟩
theorem putP_all (im : List Vol) (w : Wt) : putP im w w.data.length = putW im w := by unfold putP putW; rw [List.take_length]
theorem putP_zero (im : List Vol) (w : Wt) : putP im w 0 = im := by
  unfold putP
  simp only [List.take_zero, List.append_nil, Nat.add_zero, List.take_append_drop]
  apply List.ext_getElem?
  intro i
  by_cases h : w.vol.toNat = i
  · subst h
    by_cases h2 : w.vol.toNat < im.length
    · rw [List.getElem?_set_self h2, List.getD_eq_getElem?_getD, List.getElem?_eq_getElem h2]; rfl
    · rw [List.getElem?_eq_none (by simp; omega), List.getElem?_eq_none (by omega)]
  · rw [List.getElem?_set_ne h]
theorem putP_get {im : List Vol} {w : Wt} {k : Nat} (h : w.vol.toNat < im.length) : (putP im w k)[w.vol.toNat]? = some ⟨(im.getD w.vol.toNat ⟨[]⟩).l.take w.start.toNat ++ w.data.take k ++ (im.getD w.vol.toNat ⟨[]⟩).l.drop (w.start.toNat + k)⟩ := by
  unfold putP; rw [List.getElem?_set_self h]
theorem putP_succ {im : List Vol} {w : Wt} {k : Nat} (h : w.vol.toNat < im.length) (hk : k < w.data.length) (hf : w.start.toNat + w.data.length ≤ (im.getD w.vol.toNat ⟨[]⟩).l.length) :
    (putP im w k).set w.vol.toNat ⟨((im.getD w.vol.toNat ⟨[]⟩).l.take w.start.toNat ++ w.data.take k ++ (im.getD w.vol.toNat ⟨[]⟩).l.drop (w.start.toNat + k)).take (w.start.toNat + k) ++ [w.data[k]] ++ ((im.getD w.vol.toNat ⟨[]⟩).l.take w.start.toNat ++ w.data.take k ++ (im.getD w.vol.toNat ⟨[]⟩).l.drop (w.start.toNat + k)).drop (w.start.toNat + k + 1)⟩ = putP im w (k + 1) := by
  unfold putP
  rw [List.set_set]
  congr 2
  generalize (im.getD w.vol.toNat ⟨[]⟩).l = v at hf
  generalize w.start.toNat = S at hf
  have l1 : (v.take S ++ w.data.take k).length = S + k := by simp only [List.length_append, List.length_take]; omega
  have e1 : (v.take S ++ w.data.take k ++ v.drop (S + k)).take (S + k) = v.take S ++ w.data.take k := by
    rw [← l1, List.take_left]
  have e2 : (v.take S ++ w.data.take k ++ v.drop (S + k)).drop (S + k + 1) = v.drop (S + k + 1) := by
    rw [← List.drop_drop, show (v.take S ++ w.data.take k ++ v.drop (S + k)).drop (S + k) = v.drop (S + k) by rw [← l1, List.drop_left, l1], List.drop_drop]
  rw [e1, e2, List.take_succ_eq_append_getElem hk]
  simp only [List.append_assoc, Nat.add_assoc]
theorem putP_sizes {im : List Vol} {w : Wt} {k : Nat} (h : fitsErr (volSizes im) w = 0) (hk : k ≤ w.data.length) : volSizes (putP im w k) = volSizes im := by
  obtain ⟨h1, h2, h3, h4, h5⟩ := fits_ok h
  unfold putP volSizes
  rw [List.map_set]
  have e : (((im.getD w.vol.toNat ⟨[]⟩).l.take w.start.toNat ++ w.data.take k ++ (im.getD w.vol.toNat ⟨[]⟩).l.drop (w.start.toNat + k)).length : Int) = (im.map fun v => (v.l.length : Int))[w.vol.toNat]'(by simpa using h2) := by
    have hg : im.getD w.vol.toNat ⟨[]⟩ = im[w.vol.toNat] := by rw [List.getD_eq_getElem?_getD, List.getElem?_eq_getElem h2]; rfl
    rw [hg] at h5 ⊢
    simp only [List.length_append, List.length_take, List.length_drop, List.getElem_map]
    omega
  simp only [e, List.set_getElem_self]
theorem run_store_cells {P : Program} {w : World} {t ty : TypeId} {n g off : Nat} {cur : Array Value} {v : SV} {vs : List SV} {E : Env} (hc : v.cells? = some vs) (hs : sizeT P t = some n) (hl : vs.length = n)
    (hg : w.heap[g]? = some (.cells cur ty (0, 0))) (hfit : off + n ≤ cur.size) (h1 : ∀ u, u ∈ SV.denL E vs → u.oneCell' = true) :
    (Instr.storeAt t (.pointer (some ⟨g, off, none⟩)) (v.den E)).run P w = .ok () (w.setRow g (cur.toList.take off ++ SV.denL E vs ++ cur.toList.drop (off + n)).toArray) := by
  have hcells := SV.cells?_den E hc
  have hlen : (SV.denL E vs).length = n := by simp [SV.denL_eq, hl]
  have hst := run_storeCells_at P g off ty (SV.denL E vs) 0 cur w hg (by rw [hlen]; omega) h1
  simp only [Instr.storeAt, Instr.sureAddr, Sem.run_bind, Sem.run_pure, Result.andThen_ok, storeVar, hcells, run_sizeOf hs]
  rw [if_neg (by simp [SV.denL_eq, hl])]
  rw [hlen] at hst
  simpa using hst
end Sx
end
section
open Go Go.Proofs Sx
namespace Go.Proofs.Ytdiekahpofifeaa
set_option maxRecDepth 100000
set_option maxHeartbeats 0
theorem rc_at : callAt (opsAt Try.prog 80 [1, 1, 0, 1, 0, 0, 1, 0, 0, 1]) 8 = some (.append, [.tmp 12, .tmp 19], [45, 45], some 20) := by kernel_rfl
theorem img_ty2 : Try.prog.underlying 45 = some (.slice 53) := by kernel_rfl
theorem rc_loop {w0 : World} {H0 : HV} {im : D} (him : im.Is Vol) (hok : im.Ok H0) (hsz : ∀ v, v ∈ im.to Vol → 1 ≤ v.l.length ∧ v.l.length ≤ 1048576) (hlen : im.len ≤ 1048576) (hpos : 0 < im.len) :
    ∀ (k j : Nat) (ov : Value) (ds : List D) (H : HV) (w : World), j ≤ im.len → im.len - j = k → After w0 H0 w H → BuildI w0.heap.size H w 53 ov ds → ds.map (fun d => Vol.mk (d.to Sec)) = (im.to Vol).take j →
      At Try.prog (rcL im (.raw ov) j) H w (CpR w0 H0 (im.to Vol)) := by
  intro k
  induction k with
  | zero =>
    intro j ov ds H w hj hk a b hto
    have il := D.Is.length (α := Vol) im
    refine at_of_runs rfl (unroll_sound rfl (goM_sound (noCtr _) [] [(80, MidK.build)] 300 _ ?_))
    rw [rc_in]
    refine ⟨fun hc => ?_, fun hc => ?_⟩
    · exfalso; have := of_decide_eq_true hc; omega
    · rw [List.take_of_length_le (by omega)] at hto
      refine ret_img a b (fun e => ?_) hto
      have := congrArg List.length hto
      rw [e] at this
      simp only [List.map_nil, List.length_nil] at this
      omega
  | succ k ih =>
    intro j ov ds H w hj hk a b hto
    have il := D.Is.length (α := Vol) im
    have hjl : j < im.len := by omega
    obtain ⟨r1, r2, r3⟩ := vol_row him hjl
    have hv : Vol.mk ((im.cell j 0).to Sec) ∈ im.to Vol := List.mem_of_getElem? r3
    have hvl := hsz _ hv
    have cl := D.Is.length (α := Sec) (im.cell j 0)
    have hcl : 1 ≤ (im.cell j 0).len ∧ (im.cell j 0).len ≤ 1048576 := by rw [cl]; exact hvl
    refine at_of_runs rfl (unroll_sound rfl (goM_sound (noCtr _) [] [(80, MidK.build)] 300 _ ?_))
    rw [rc_in]
    refine ⟨fun hc => ⟨⟨by omega, by omega, him.size (i := j) (by rw [← il]; exact hjl)⟩, ?_, ?_⟩, fun hc => ?_⟩
    · obtain ⟨q1, q2, q3, q4, _⟩ := r2
      rw [Int.toNat_natCast]
      exact ⟨q1, q2, q3, by simp only [D.cellAt, r1, Option.bind_some, List.getElem?_cons_zero, ← q4]⟩
    · rw [Int.toNat_natCast]
      refine ⟨⟨r2.fits, ?_, ?_⟩, fun hs1 => ?_⟩
      · show (im.cell j 0).len * 8 ≤ _; omega
      · show (im.cell j 0).len ≤ _; omega
      · intro E1 H1 w1 g1 ok1
        obtain ⟨H2, a2, _, hin2, hden⟩ := pub_inner g1 (k := 1018) (d := D.slc (D.hd (hs1 0 0)) 8 (D.rows (D.cell im j 0))) rfl (is_rows rfl fun r hr => (rows_of r2).1 r hr) (fun e => by
          have : (im.cell j 0).len = 0 := congrArg List.length (show (im.cell j 0).rows = [] from e)
          omega)
        generalize hd : D.slc (D.hd (hs1 0 0)) 8 (D.rows (D.cell im j 0)) = d at *
        have hdto : d.to Sec = (im.cell j 0).to Sec := by rw [← hd]; rfl
        have a02 := a.trans a2
        have b2 := b.mono a2
        have hin0 := hin2.low (n' := w0.heap.size) a.below.size
        refine stk_to (E := E1) (sl := [(0, .dat im), (3, .raw ov), (4, .int .i64 j), (12, .raw ov), (18, .dat d)]) (n := 22) rfl (fun p hp => ?_) (fun p hp => ?_) a2.cell (at_of_runs rfl (goM_sound (noCtr _) [] [(80, MidK.append)] 300 _ ?_))
        · simp only [List.mem_cons, List.not_mem_nil, or_false] at hp
          rcases hp with rfl | rfl | rfl | rfl | rfl
          · rfl
          · rfl
          · rfl
          · rfl
          · simp only [SV.den]; rw [← hden]; rfl
        · simp only [List.mem_cons, List.not_mem_nil, or_false] at hp
          rcases hp with rfl | rfl | rfl | rfl | rfl
          · exact ⟨hok.mono a02.le, him.slc⟩
          · trivial
          · trivial
          · trivial
          · exact ⟨hin2.2.1, hin2.1.slc⟩
        · show (goM Try.prog [] [] [(80, MidK.append)] 300 (rcB im d (.raw ov) j)).holds _ _ _
          rw [rcb_go]
          intro hs2 E3 H3 w3 g3 ok3
          obtain ⟨i, z, q1, q2, q3, q4, q5⟩ := sec_info
          have hdl : ds.length = j := by
            have := congrArg List.length hto
            rw [List.length_map, List.length_take] at this
            omega
          obtain ⟨w4, ov', hrun, a4, b4⟩ := build_append (P := Try.prog) (ty := 45) (k := 1019) (hh := D.hd (hs2 0 0)) (d := d) img_ty2 q1 q2 q3 q4 q5 a02 b2 hin0 (innerOk.fresh hin2 b) g3 rfl (by omega) (key := 7777) rfl
          refine stk_builtin (u := ov') (w' := w4) (E' := E3) rc_at (fun ty => ?_) (fun _ _ _ => rfl) ?_
          · have := hrun
            show (builtin .append _ ty #[] #[(SV.raw ov).den E3, (SV.vec 1019).den E3]).run _ _ = _
            simp only [builtin, Sem.run_bind, Result.andThen_ok, Sem.run_pure]
            show Result.andThen (Sem.run Try.prog (Builtin.append_ #[45, 45] 45 #[ov, (SV.vec 1019).den E3]) w3) _ = _
            rw [this]
            rfl
          · refine stk_to (E := E3) (sl := [(0, .dat im), (4, .int .i64 j), (20, .raw ov')]) (n := 22) rfl (fun p hp => ?_) (fun p hp => ?_) a4.cell (at_of_runs rfl (goM_sound (noCtr _) [] [] 300 _ ?_))
            · simp only [List.mem_cons, List.not_mem_nil, or_false] at hp
              rcases hp with rfl | rfl | rfl <;> rfl
            · simp only [List.mem_cons, List.not_mem_nil, or_false] at hp
              rcases hp with rfl | rfl | rfl
              · exact ⟨hok.mono a4.le, him.slc⟩
              · trivial
              · trivial
            · show (goM Try.prog [] [] [] 300 (rcC im (.raw ov') j)).holds _ _ _
              rw [rcc_go, wrap_succ hjl (by omega)]
              intro E5 H5 w5 g5 ok5
              have a5 := after_good g5
              refine ih (j + 1) ov' (ds ++ [d]) H5 w5 hjl (by omega) (a4.trans a5) (b4.mono a5) ?_ E5 ok5 g5.cell
              rw [List.map_append, hto, List.take_add_one, r3]
              simp only [List.map_cons, List.map_nil, hdto, Option.toList_some]
    · exfalso; have := of_decide_eq_false hc; omega
theorem rc_all {H : HV} {w : World} {im : D} (him : im.Is Vol) (hok : im.Ok H) (hsz : ∀ v, v ∈ im.to Vol → 1 ≤ v.l.length ∧ v.l.length ≤ 1048576) (hlen : im.len ≤ 1048576) (hpos : 0 < im.len) :
    At Try.prog (rcA im) H w (CpR w H (im.to Vol)) := by
  refine at_of_runs rfl (goM_sound (noCtr _) [] [] 300 _ ?_)
  rw [rca_go]
  intro E1 H1 w1 g1 ok1
  have a1 := after_good g1
  have hE : At Try.prog (rcL im (.raw (.slice none 0 0)) ((0 : Nat) : Int)) H1 w1 (CpR w H (im.to Vol)) := rc_loop him hok hsz hlen hpos im.len 0 (.slice none 0 0) [] H1 w1 (Nat.zero_le _) (by omega) a1 buildI_nil rfl
  refine stk_to (E := E1) (sl := [(0, .dat im), (3, .raw (.slice none 0 0)), (4, .int .i64 ((0 : Nat) : Int))]) (n := 22) rfl (fun p hp => ?_) (fun p hp => ?_) a1.cell hE
  · simp only [List.mem_cons, List.not_mem_nil, or_false] at hp
    rcases hp with rfl | rfl | rfl
    · rfl
    · rfl
    · rfl
  · simp only [List.mem_cons, List.not_mem_nil, or_false] at hp
    rcases hp with rfl | rfl | rfl
    · exact ⟨hok.mono a1.le, him.slc⟩
    · trivial
    · trivial
end Go.Proofs.Ytdiekahpofifeaa
end
section
open Go Go.Proofs Sx
namespace Go.Proofs.Ytdiekahpofifeaa
set_option maxRecDepth 100000
set_option maxHeartbeats 0
theorem ctRAOk : Ctrs.Ok Try.prog ctRA := by
  intro x hx
  rcases List.mem_cons.1 hx with rfl | hx
  · exact ctrOf_ok lawCkIR
  · rw [List.mem_singleton.1 hx]; exact ctrOf_ok lawFitsIR
theorem rs_at : storeAt (opsAt Try.prog 61 [1, 1, 1, 0, 1, 0, 0, 1, 0, 0, 1, 1, 0, 0, 1, 0, 0]) 24 = some (105, .tmp 68, .tmp 67, none) := by kernel_rfl
theorem sec_szT : sizeT Try.prog 105 = some 8 := by kernel_rfl
section
variable {w0 : World} {H0 : HV} (hin0 : InMem H0 w0) {im l : D} (hl : l.Ok H0) (li : l.Is Wt) (ll : l.len ≤ 1048576) (ld : ∀ w, w ∈ l.to Wt → w.data.length ≤ 1048576)
  (hmo : im.Ok H0) (him : ImgOk im) (hz : sizesErr (volSizes (im.to Vol)) = 0)
include hin0 hl li ll ld hmo him hz
theorem rap_inner {j : Nat} (hjl : j < (l.to Wt).length) {im0 : List Vol} (hv0 : volSizes im0 = volSizes (im.to Vol)) (he : fitsErr (volSizes im0) (l.to Wt)[j] = 0)
    (ih : ∀ (o : D) (H : HV) (w : World), After w0 H0 w H → ImgW w0.heap.size H w o → volSizes (o.to Vol) = volSizes (im.to Vol) → At Try.prog (rapL im o l ((j + 1 : Nat) : Int)) H w (applyR w0 H0 (applyV (j + 1) ((l.to Wt).drop (j + 1)) (o.to Vol)))) :
    ∀ (m k : Nat) (q : D) (H : HV) (w : World), k ≤ ((l.to Wt)[j]).data.length → ((l.to Wt)[j]).data.length - k = m → After w0 H0 w H → ImgW w0.heap.size H w q → q.to Vol = putP im0 (l.to Wt)[j] k →
      At Try.prog (rapK im q l j k) H w (applyR w0 H0 (applyV (j + 1) ((l.to Wt).drop (j + 1)) (putW im0 (l.to Wt)[j]))) := by
  have wl := D.Is.length (α := Wt) l
  obtain ⟨c1, c2, c3⟩ := wt_cell li hjl
  have c2 : (D.cell l (Int.toNat (j : Int)) 2).Is Sec := c2
  have hdl := ld _ (List.getElem_mem hjl)
  have e0 : (WtD.mk (D.getInt l (Int.toNat (j : Int)) 0) (D.getInt l (Int.toNat (j : Int)) 1) (D.cell l (Int.toNat (j : Int)) 2)).wt = (l.to Wt)[j] := c3.symm
  have ev : D.getInt l (Int.toNat (j : Int)) 0 = ((l.to Wt)[j]).vol := by rw [← e0]; rfl
  have es : D.getInt l (Int.toNat (j : Int)) 1 = ((l.to Wt)[j]).start := by rw [← e0]; rfl
  have ed : (D.cell l (Int.toNat (j : Int)) 2).to Sec = ((l.to Wt)[j]).data := by rw [← e0]; rfl
  have hj0 : (j : Int).toNat = j := Int.toNat_natCast j
  rw [hj0] at ev es ed c2
  have dlen : (D.cell l j 2).len = ((l.to Wt)[j]).data.length := by rw [D.Is.length (α := Sec), ed]
  obtain ⟨f1, f2, f3, f4, f5⟩ := fits_ok he
  have hall := putP_sizes (k := ((l.to Wt)[j]).data.length) he (Nat.le_refl _)
  have hsz4 := (sizesErr_ok hz).2.2
  have hcs : l.HasCells j 0 [.int .i64, .int .i64, .slc] := c1
  have h0 : l.HasCell j 0 (.int .i64) := hcs.1
  have h1 : l.HasCell j 1 (.int .i64) := hcs.2.1
  have h2 : l.HasCell j 2 .slc := hcs.2.2.1
  have hls := li.size hjl
  intro m
  induction m with
  | zero =>
    intro k q H w hk hm a hI hto
    have hkk : k = ((l.to Wt)[j]).data.length := by omega
    refine at_of_runs rfl (unroll_sound rfl (goM_sound ctRAOk [] [(61, MidK.store)] 300 _ ?_))
    rw [rapk_go, hj0]
    refine ⟨⟨by omega, by omega, hls⟩, h2, fun hc => ?_, fun hc => ?_⟩
    · exfalso; have := of_decide_eq_true hc; omega
    · subst hkk
      rw [putP_all] at hto
      intro E3 H3 w3 g3 ok3
      have a3 := after_good g3
      have := ih q H3 w3 (a.trans a3) (hI.mono a3) (by rw [hto, ← putP_all, hall, hv0])
      rw [hto, ← wrap_succ hjl (by omega)] at this
      exact this E3 ok3 g3.cell
  | succ m ihm =>
    intro k q H w hk hm a hI hto
    have hkl : k < ((l.to Wt)[j]).data.length := by omega
    refine at_of_runs rfl (unroll_sound rfl (goM_sound ctRAOk [] [(61, MidK.store)] 300 _ ?_))
    rw [rapk_go, hj0]
    obtain ⟨s1, s2⟩ := sec_cell c2 (i := k) (by rw [ed]; exact hkl)
    generalize hw : (l.to Wt)[j] = wr at *
    obtain ⟨V, hV⟩ := Int.eq_ofNat_of_zero_le f1
    obtain ⟨S, hS⟩ := Int.eq_ofNat_of_zero_le f4
    have ql := D.Is.length (α := Vol) q
    have hql : (q.to Vol).length = im0.length := by rw [hto]; simp [putP]
    have hVl : V < q.len := by rw [hV] at f2; rw [ql, hql]; simpa using f2
    obtain ⟨r1, r2, r3⟩ := vol_row hI.is hVl
    have hVg : (q.to Vol)[V]? = some ⟨(im0.getD V ⟨[]⟩).l.take S ++ wr.data.take k ++ (im0.getD V ⟨[]⟩).l.drop (S + k)⟩ := by
      have := putP_get (im := im0) (w := wr) (k := k) f2
      rw [← hto, hV, hS] at this
      simpa using this
    rw [r3] at hVg
    have hVc : (q.cell V 0).to Sec = (im0.getD V ⟨[]⟩).l.take S ++ wr.data.take k ++ (im0.getD V ⟨[]⟩).l.drop (S + k) := by
      have := Option.some.inj hVg
      simpa using this
    have cl := D.Is.length (α := Sec) (q.cell V 0)
    rw [hV, hS] at f5
    simp only [Int.toNat_natCast] at f5
    have hcl : (q.cell V 0).len = (im0.getD V ⟨[]⟩).l.length := by
      rw [cl, hVc]
      simp only [List.length_append, List.length_take, List.length_drop]; omega
    have hsml : (im0.getD V ⟨[]⟩).l.length ≤ 4096 := by
      have hVi : V < im0.length := by rw [hV] at f2; simpa using f2
      have hm : ((im0.getD V ⟨[]⟩).l.length : Int) ∈ volSizes im0 := by
        rw [List.getD_eq_getElem?_getD, List.getElem?_eq_getElem hVi]
        exact List.mem_map.2 ⟨_, List.getElem_mem hVi, rfl⟩
      rw [hv0] at hm
      have := hsz4 _ hm; omega
    have wSk : IntKind.i64.wrap ((S : Int) + (k : Int)) = ((S + k : Nat) : Int) := by rw [wrap64 (by omega) (by omega)]; rfl
    have c8 : (D.cell l j 2).sz = 8 := c2.size (i := k) (by rw [ed]; exact hkl)
    have o8 : (q.cell V 0).sz = 8 := r2.size (i := S + k) (by rw [← cl]; omega)
    refine ⟨⟨by omega, by omega, hls⟩, h2, fun hc hs => ?_, fun hc => ?_⟩
    · rw [ev, es, hV, hS, wSk, Int.toNat_natCast V, Int.toNat_natCast (S + k), Int.toNat_natCast k]
      refine ⟨⟨by omega, by omega, hls⟩, h0, ⟨by omega, by omega, hI.sz⟩, ?_, ⟨by omega, by omega, hls⟩, h1, ⟨by omega, by omega, hls⟩, h2, ⟨by omega, by omega, c8⟩, s1, ⟨by omega, by omega, o8⟩, ?_⟩
      · obtain ⟨q1, q2, q3, q4, _⟩ := r2
        exact ⟨q1, q2, q3, by simp only [D.cellAt, r1, Option.bind_some, List.getElem?_cons_zero, ← q4]⟩
      · -- the store
        intro E H1 w1 g1 ok1
        have a1 := after_good g1
        have hI1 := hI.mono a1
        obtain ⟨cur, t, hg⟩ := hI1.live V hVl
        obtain ⟨ci, hci⟩ := hI1.hd V hVl
        generalize hx : (D.cell l j 2) = wd at *
        let row : List D := [.int .u8 (wd.getInt k 0), .int .u8 (wd.getInt k 1), .int .u8 (wd.getInt k 2), .int .u8 (wd.getInt k 3), .int .u8 (wd.getInt k 4), .int .u8 (wd.getInt k 5), .int .u8 (wd.getInt k 6), .int .u8 (wd.getInt k 7)]
        have hrs : ∀ r, r ∈ [row] → Codec.ok Sec r := fun r hr => by rw [List.mem_singleton.1 hr]; exact ⟨_, _, _, _, _, _, _, _, rfl⟩
        have hsl : (S + k) + [row].length ≤ (q.cell V 0).len := by show S + k + 1 ≤ _; omega
        obtain ⟨H2, p1, p2, p3, p4, p5, p6⟩ := hI1.put hVl hrs hsl g1.cell hg rfl
        have hbn := hI1.low V hVl
        have hf8 : (flat [row]).length = 8 := rfl
        have ao : After w0 H0 (w1.setRow (blk q V) (cur.toList.take ((S + k) * 8) ++ flat [row] ++ cur.toList.drop ((S + k) * 8 + (flat [row]).length)).toArray) H2 := by
          have a01 := a.trans a1
          refine ⟨below_setRow a01.below hbn _, p3 H0 a01.le fun x => ?_, fun b x u hb => ?_, p1⟩
          · cases hx : H0 (blk q V) x with
            | none => rfl
            | some u =>
              have := hin0 _ _ _ hx
              have : blk q V < w0.heap.size := by
                unfold World.cell? at this
                simp only at this
                cases hh : w0.heap[blk q V]? with
                | none => rw [hh] at this; cases this
                | some q => exact (Array.getElem?_eq_some_iff.1 hh).1
              omega
          · rcases p4 b x u hb with h | h
            · exact a01.fresh b x u h
            · exact .inr (by rw [h]; exact hbn)
        have hfl : SV.denL E [SV.int .u8 (wd.getInt k 0), SV.int .u8 (wd.getInt k 1), SV.int .u8 (wd.getInt k 2), SV.int .u8 (wd.getInt k 3), SV.int .u8 (wd.getInt k 4), SV.int .u8 (wd.getInt k 5), SV.int .u8 (wd.getInt k 6), SV.int .u8 (wd.getInt k 7)] = flat [row] := rfl
        have hrun := run_store_cells (P := Try.prog) (w := w1) (t := 105) (ty := t) (n := 8) (g := blk q V) (off := (S + k) * 8) (cur := cur) (E := E)
          (v := .agg [.int .u8 (wd.getInt k 0), .int .u8 (wd.getInt k 1), .int .u8 (wd.getInt k 2), .int .u8 (wd.getInt k 3), .int .u8 (wd.getInt k 4), .int .u8 (wd.getInt k 5), .int .u8 (wd.getInt k 6), .int .u8 (wd.getInt k 7)]) rfl sec_szT rfl hg (by omega)
          (fun u hu => by rw [hfl] at hu; exact flat_one _ u hu)
        rw [hfl] at hrun
        have hadr : (SV.elt (q.cell V 0) (S + k) 0).den E = .pointer (some ⟨blk q V, (S + k) * 8, none⟩) := by
          have hao : (q.cell V 0).addr.off = 0 := by unfold D.addr; rw [hci]
          show Value.pointer (some ⟨(q.cell V 0).addr.block, (q.cell V 0).addr.off + (S + k) * (q.cell V 0).sz + 0, none⟩) = _
          rw [hao, o8, Nat.zero_add, Nat.add_zero]; rfl
        refine stk_store (w' := w1.setRow (blk q V) (cur.toList.take ((S + k) * 8) ++ flat [row] ++ cur.toList.drop ((S + k) * 8 + (flat [row]).length)).toArray) (E' := E) rs_at ?_ ?_
        · show (Instr.storeAt _ ((SV.elt (q.cell V 0) (S + k) 0).den E) _).run _ _ = _
          rw [hadr]
          exact hrun
        · have hpv : (q.putSec V (S + k) [row]).val = q.val := put_val hI1 hVl hrs hsl
          have hto2 : (q.putSec V (S + k) [row]).to Vol = (q.to Vol).set V ⟨((q.cell V 0).to Sec).take (S + k) ++ [row].map Codec.dec ++ ((q.cell V 0).to Sec).drop (S + k + [row].length)⟩ := put_to hI1 hVl hrs hsl
          have hrow : ([row].map Codec.dec : List Sec) = [wr.data[k]] := by
            have e1 : (wd.to Sec)[k]'(by rw [ed]; exact hkl) = wr.data[k] := by simp only [ed]
            rw [← e1, s2]; rfl
          have hput : (q.putSec V (S + k) [row]).to Vol = putP im0 wr (k + 1) := by
            rw [hto2, hrow, hVc, hto]
            have := putP_succ (im := im0) (w := wr) (k := k) f2 hkl (by rw [hV, hS]; simpa using f5)
            rw [hV, hS] at this
            simp only [Int.toNat_natCast] at this
            exact this
          have hE : At Try.prog (rapS im (q.putSec V (S + k) [row]) l j k) H2 (w1.setRow (blk q V) (cur.toList.take ((S + k) * 8) ++ flat [row] ++ cur.toList.drop ((S + k) * 8 + (flat [row]).length)).toArray) (applyR w0 H0 (applyV (j + 1) ((l.to Wt).drop (j + 1)) (putW im0 wr))) := by
            refine at_of_runs rfl (goM_sound ctRAOk [] [] 300 _ ?_)
            rw [raps_go, wrap_succ hkl (by omega)]
            intro E3 H3 w3 g3 ok3
            have a3 := after_good g3
            exact ihm (k + 1) (q.putSec V (S + k) [row]) H3 w3 hkl (by omega) (ao.trans a3) (p2.mono a3) hput E3 ok3 g3.cell
          refine stk_to (E := E) (sl := [(0, .dat im), (1, .dat l), (8, .dat (q.putSec V (S + k) [row])), (9, .int .i64 (j : Int)), (11, .int .i64 (k : Int))]) (n := 70) rfl (fun p hp => ?_) (fun p hp => ?_) p1 hE
          · simp only [List.mem_cons, List.not_mem_nil, or_false] at hp
            rcases hp with rfl | rfl | rfl | rfl | rfl
            · rfl
            · rfl
            · simp only [SV.den]; rw [hpv]; rfl
            · rfl
            · rfl
          · simp only [List.mem_cons, List.not_mem_nil, or_false] at hp
            rcases hp with rfl | rfl | rfl | rfl | rfl
            · exact ⟨hmo.mono ao.le, him.1.slc⟩
            · exact ⟨hl.mono ao.le, li.slc⟩
            · exact ⟨p2.ok, p2.is.slc⟩
            · trivial
            · trivial
    · exfalso; have := of_decide_eq_false hc; omega
theorem rap_loop : ∀ (n j : Nat) (o : D) (H : HV) (w : World), j ≤ (l.to Wt).length → (l.to Wt).length - j = n → After w0 H0 w H → ImgW w0.heap.size H w o → volSizes (o.to Vol) = volSizes (im.to Vol) →
      At Try.prog (rapL im o l j) H w (applyR w0 H0 (applyV j ((l.to Wt).drop j) (o.to Vol))) := by
  have wl := D.Is.length (α := Wt) l
  intro n
  induction n with
  | zero =>
    intro j o H w hj hk a hI hv
    refine at_of_runs rfl (unroll_sound rfl (goM_sound ctRAOk [] [] 300 _ ?_))
    rw [rapl_go]
    refine ⟨fun hc => ?_, fun hc => ?_⟩
    · exfalso; have := of_decide_eq_true hc; omega
    · rw [List.drop_eq_nil_of_le (by omega)]
      exact ret_app a (stands_dat hI.is rfl)
  | succ n ih =>
    intro j o H w hj hk a hI hv
    have hjl : j < (l.to Wt).length := by omega
    refine at_of_runs rfl (unroll_sound rfl (goM_sound ctRAOk [] [] 300 _ ?_))
    rw [rapl_go]
    have hdrop : (l.to Wt).drop j = (l.to Wt)[j] :: (l.to Wt).drop (j + 1) := List.drop_eq_getElem_cons hjl
    rw [hdrop]
    obtain ⟨c1, c2, c3⟩ := wt_cell li hjl
    have c2 : (D.cell l (Int.toNat (j : Int)) 2).Is Sec := c2
    have hdl := ld _ (List.getElem_mem hjl)
    have e0 : (WtD.mk (D.getInt l (Int.toNat (j : Int)) 0) (D.getInt l (Int.toNat (j : Int)) 1) (D.cell l (Int.toNat (j : Int)) 2)).wt = (l.to Wt)[j] := c3.symm
    have hdd : (D.cell l (Int.toNat (j : Int)) 2).len ≤ 1048576 := by
      rw [D.Is.length (α := Sec)]
      have := congrArg (fun w => w.data.length) e0
      simp only [WtD.wt] at this
      rw [this]; exact hdl
    have hfi : fitsI (im.to Vol) (l.to Wt)[j] = fitsErr (volSizes (o.to Vol)) (l.to Wt)[j] := by
      unfold fitsI; rw [if_neg (by simp [hz]), hv]
    rw [e0, hfi]
    refine ⟨fun hc => ⟨⟨by omega, by omega, li.size hjl⟩, c1, ⟨him, c2, hdd⟩, fun he => ?_, fun he => ?_⟩, fun hc => ?_⟩
    · have he : fitsErr (volSizes (o.to Vol)) (l.to Wt)[j] ≠ 0 := by simpa using he
      unfold applyV
      rw [if_pos he]
      exact ret_app a stands_nils
    · have he : fitsErr (volSizes (o.to Vol)) (l.to Wt)[j] = 0 := by simpa using he
      have hap : applyV j ((l.to Wt)[j] :: (l.to Wt).drop (j + 1)) (o.to Vol) = applyV (j + 1) ((l.to Wt).drop (j + 1)) (putW (o.to Vol) (l.to Wt)[j]) := by
        conv => lhs; unfold applyV
        rw [if_neg (by simp [he])]
      rw [hap]
      intro E1 H1 w1 g1 ok1
      have a1 := after_good g1
      have := rap_inner hin0 hl li ll ld hmo him hz hjl hv he (fun o' H' w' a' hI' hv' => ih (j + 1) o' H' w' hjl (by omega) a' hI' hv') ((l.to Wt)[j]).data.length 0 o H1 w1 (Nat.zero_le _) (by omega) (a.trans a1) (hI.mono a1) (putP_zero _ _).symm
      exact this E1 ok1 g1.cell
    · exfalso; have := of_decide_eq_false hc; omega
end
theorem lawApplyR : Law Try.prog 61 ((rdD.two rdD).sp spApplyI) := by
  refine law_in _ (by kernel_rfl) fun H w b hok hp => ?_
  obtain ⟨im, l⟩ := b
  obtain ⟨p1, p2, p3, p4, p5⟩ := hp _ (List.mem_singleton.2 rfl)
  apply goM_sound ctRAOk [(80, 0), (80, 1), (80, 2), (80, 3)] [] 300
  rw [show (rdD.two rdD).canon (im, l) = [.dat im, .dat l] from rfl, rap_in]
  have p2 : im.len ≤ 1048576 := p2
  have il := D.Is.length (α := Vol) im
  refine ⟨⟨p1, p2⟩, fun hc => ?_, fun hc => ?_⟩
  · have hc : sizesErr (volSizes (im.to Vol)) ≠ 0 := by simpa using hc
    obtain ⟨d, k1, k2, k3, k4⟩ := stands_nils (α := Vol)
    refine ⟨rfl, fun E H' w' g hv => ⟨H', after_good g, fun _ => d, fun E' => ?_, ?_⟩⟩
    · simp only [applyI, if_pos hc, SV.den, SV.denL, D.like_self k2 k3]
      rw [← k1 E]; rfl
    · simp only [SV.Ok, SV.OkL] at hv ⊢
      simp only [applyI, if_pos hc]
      rw [D.like_self k2 k3]
      exact ⟨⟨k4 _ hv.1, k2.slc⟩, trivial, trivial, trivial⟩
  · have hc : sizesErr (volSizes (im.to Vol)) = 0 := by simpa using hc
    have hsz := sizes_len hc
    rw [vs_len] at hsz
    have hpos : 0 < im.len := by
      rw [il]
      cases hl : im.to Vol with
      | nil => rw [hl] at hc; exact absurd hc (by decide)
      | cons x r => exact Nat.succ_pos _
    have hIm : ImgOk im := ⟨p1, p2, fun v hv => by
      have hm : (v.l.length : Int) ∈ volSizes (im.to Vol) := List.mem_map.2 ⟨v, hv, rfl⟩
      have := hsz.2 _ hm; omega⟩
    intro E1 H1 w1 g1 ok1
    have a1 := after_good g1
    have him : im.Ok H1 := hok.1.1.mono a1.le
    have hl : l.Ok H1 := hok.2.1.1.mono a1.le
    refine stk_call (E := E1) (sl := [(0, .dat im)]) (n := 22) rfl (fun p hp => ?_) (fun p hp => ?_) g1.cell (R1 := CpR w1 H1 (im.to Vol)) ?_ ?_
    · rw [List.mem_singleton.1 hp]; rfl
    · rw [List.mem_singleton.1 hp]; exact ⟨him, p1.slc⟩
    · exact rc_all p1 him (fun v hv => by
        have hm : (v.l.length : Int) ∈ volSizes (im.to Vol) := List.mem_map.2 ⟨v, hv, rfl⟩
        have := hsz.2 _ hm; omega) p2 hpos
    · intro u w2 ⟨H2, o, a2, hI, hu, hto⟩
      have hE : At Try.prog (rapE im o l) H2 w2 (applyR w1 H1 (applyV 0 (l.to Wt) (im.to Vol))) := by
        refine at_of_runs rfl (goM_sound (noCtr _) [] [] 300 _ ?_)
        rw [rape_go]
        intro E4 H4 w4 g4 ok4
        have a4 := after_good g4
        have := rap_loop g1.cell hl p3 p4 p5 him hIm hc (l.to Wt).length 0 o H4 w4 (Nat.zero_le _) (by omega) (a2.trans a4) (hI.mono a4) (by rw [hto])
        rw [List.drop_zero, hto] at this
        exact this E4 ok4 g4.cell
      refine StkRun.mono (R := applyR w1 H1 (applyV 0 (l.to Wt) (im.to Vol))) ?_ ?_
      · intro u' w3 ⟨H3, a3, ds, hu3, hok3⟩
        refine ⟨H3, a1.trans a3, ds, fun E => ?_, ?_⟩
        · unfold applyI
          rw [if_neg (by simp [hc])]
          exact hu3 E
        · unfold applyI
          rw [if_neg (by simp [hc])]
          exact hok3
      · refine stk_aw (aw := none) ?_
        refine stk_to (E := E1) (sl := [(0, .dat im), (1, .dat l), (18, .dat o)]) (n := 70) rfl (fun p hp => ?_) (fun p hp => ?_) a2.cell hE
        · simp only [List.mem_cons, List.not_mem_nil, or_false] at hp
          rcases hp with rfl | rfl | rfl
          · rfl
          · rfl
          · simp only [SV.den]; rw [← hu]; rfl
        · simp only [List.mem_cons, List.not_mem_nil, or_false] at hp
          rcases hp with rfl | rfl | rfl
          · exact ⟨him.mono a2.le, p1.slc⟩
          · exact ⟨hl.mono a2.le, p3.slc⟩
          · exact ⟨hI.ok, hI.is.slc⟩
end Go.Proofs.Ytdiekahpofifeaa
end
section
open Go Go.Proofs Sx
namespace Go.Proofs.Ytdiekahpofifeaa
set_option maxRecDepth 100000
set_option maxHeartbeats 0
section
variable (n : Int) (a b : D)
theorem eqi_in : exec Try.prog [] 200 (entry Try.prog 17 [.dat a, .dat b]) =
 Tree.br ((↑(D.len a) : Int) != (↑(D.len b) : Int)) (.ret (.lb false))
 (.leaf
 (Conf.mk
 (SFrm.mk 17 none none
 [Item.inLoop (cAt Try.prog 17 [1, 1, 0, 1, 0, 0]), Item.inBlock 0, Item.code (cAt Try.prog 17 [1, 1, 1])]
 (mkJ 0 [(0, .dat a), (1, .dat b), (12, .int .i64 (↑(D.len a) : Int)), (13, .int .i64 0)] 0
 26))
 [] [])) := by kernel_rfl

theorem eqe_in : exec Try.prog [] 200 (entry Try.prog 40 [.dat a, .dat b]) =
 Tree.br ((↑(D.len a) : Int) != (↑(D.len b) : Int)) (.ret (.lb false))
 (.leaf
 (Conf.mk
 (SFrm.mk 40 none none
 [Item.inLoop (cAt Try.prog 40 [1, 1, 0, 1, 0, 0]), Item.inBlock 0, Item.code (cAt Try.prog 40 [1, 1, 1])]
 (mkJ 0 [(0, .dat a), (1, .dat b), (12, .int .i64 (↑(D.len a) : Int)), (13, .int .i64 0)] 0
 26))
 [] [])) := by kernel_rfl


end
end Go.Proofs.Ytdiekahpofifeaa
end
section
open Go Go.Proofs Sx
namespace Go.Proofs.Ytdiekahpofifeaa
set_option maxRecDepth 100000
set_option maxHeartbeats 0
noncomputable def eqiL (a b : D) (j : Int) : Conf := Conf.mk (SFrm.mk 17 none none [Item.inLoop (cAt Try.prog 17 [1, 1, 0, 1, 0, 0]), Item.inBlock 0, Item.code (cAt Try.prog 17 [1, 1, 1])] (mkJ 0 [(0, .dat a), (1, .dat b), (12, .int .i64 (a.len : Int)), (13, .int .i64 j)] 0 26)) [] []
noncomputable def eqeL (a b : D) (j : Int) : Conf := Conf.mk (SFrm.mk 40 none none [Item.inLoop (cAt Try.prog 40 [1, 1, 0, 1, 0, 0]), Item.inBlock 0, Item.code (cAt Try.prog 40 [1, 1, 1])] (mkJ 0 [(0, .dat a), (1, .dat b), (12, .int .i64 (a.len : Int)), (13, .int .i64 j)] 0 26)) [] []
section
variable (n j : Int) (a b : D)
theorem eqi_go : exec Try.prog [] 200 (unroll (eqiL a b j)) =
 Tree.br (decide (j < (↑(D.len a) : Int)))
 (.all fun hs =>
 .need (0 ≤ j ∧ j < (↑(D.len a) : Int) ∧ D.sz a = 1)
 (.need (D.HasCell a (Int.toNat j) 0 (FT.int .i64))
 (.need (0 ≤ j ∧ j < (↑(D.len b) : Int) ∧ D.sz b = 1)
 (.need (D.HasCell b (Int.toNat j) 0 (FT.int .i64))
 (.br (D.getInt a (Int.toNat j) 0 != D.getInt b (Int.toNat j) 0) (.ret (.lb false))
 (.leaf
 (Conf.mk
 (SFrm.mk 17 none none
 [Item.inLoop (cAt Try.prog 17 [1, 1, 0, 1, 0, 0]), Item.inBlock 0,
 Item.code (cAt Try.prog 17 [1, 1, 1])]
 (mkJ 0
 [(0, .dat a), (1, .dat b), (12, .int .i64 (↑(D.len a) : Int)),
 (13, .int .i64 (IntKind.wrap .i64 (j + 1)))]
 0 26))
 [] [])))))))
 (.ret (.lb true)) := by kernel_rfl

theorem eqe_go : exec Try.prog [] 200 (unroll (eqeL a b j)) =
 Tree.br (decide (j < (↑(D.len a) : Int)))
 (.all fun hs =>
 .need (0 ≤ j ∧ j < (↑(D.len a) : Int) ∧ D.sz a = 2)
 (.need (D.HasCells a (Int.toNat j) 0 [FT.int .i64, FT.int .i64])
 (.need (0 ≤ j ∧ j < (↑(D.len b) : Int) ∧ D.sz b = 2)
 (.need (D.HasCells b (Int.toNat j) 0 [FT.int .i64, FT.int .i64])
 (.br
 (!(decide (D.getInt a (Int.toNat j) 0 = D.getInt b (Int.toNat j) 0) &&
 (decide (D.getInt a (Int.toNat j) 1 = D.getInt b (Int.toNat j) 1) && true)))
 (.ret (.lb false))
 (.leaf
 (Conf.mk
 (SFrm.mk 40 none none
 [Item.inLoop (cAt Try.prog 40 [1, 1, 0, 1, 0, 0]), Item.inBlock 0,
 Item.code (cAt Try.prog 40 [1, 1, 1])]
 (mkJ 0
 [(0, .dat a), (1, .dat b), (12, .int .i64 (↑(D.len a) : Int)),
 (13, .int .i64 (IntKind.wrap .i64 (j + 1)))]
 0 26))
 [] [])))))))
 (.ret (.lb true)) := by kernel_rfl

end
end Go.Proofs.Ytdiekahpofifeaa
end
section
open Go Go.Proofs Sx
namespace Go.Proofs.Ytdiekahpofifeaa
set_option maxRecDepth 100000

theorem lawEqI : Law Try.prog 17 ((rdD.two rdD).sp spInts) := by
  refine law_in _ (by kernel_rfl) fun H w ⟨a, b⟩ hok hp => ?_
  obtain ⟨ha, hb, hlen⟩ := hp _ (List.mem_singleton.2 rfl)
  simp only at ha hb hlen
  have hla := D.Is.length (α := Int) a
  have hlb := D.Is.length (α := Int) b
  apply exec_sound (noCtr _) 200
  rw [show (rdD.two rdD).canon (a, b) = [.dat a, .dat b] from rfl, eqi_in]
  refine ⟨fun hc => ret_lb ?_, fun hc => ?_⟩
  · exact same_not fun he => by simp [hla, hlb, he] at hc
  have hc' : (a.to Int).length = (b.to Int).length := by simp [hla, hlb] at hc; omega
  refine runs_loop (fun j : Nat => eqiL a b j) (fun j => j ≤ (a.to Int).length ∧ (a.to Int).take j = (b.to Int).take j) (fun j => (a.to Int).length - j) (fun _ => rfl) ?_ 0 ⟨Nat.zero_le _, rfl⟩
  intro j ⟨hj, hpre⟩ ih
  apply exec_sound (noCtr _) 200
  rw [eqi_go]
  refine ⟨fun hc _ => ?_, fun hc => ret_lb ?_⟩
  · have hc : j < (a.to Int).length := by have := of_decide_eq_true hc; omega
    obtain ⟨c1, c2, c3⟩ := int_at ha hc
    obtain ⟨e1, e2, e3⟩ := int_at hb (hc' ▸ hc)
    refine ⟨c1, c2, e1, e2, fun h => ret_lb ?_, fun h => ?_⟩
    · refine same_not fun he => ?_
      simp only [c3, e3, he, bne_self_eq_false] at h
      cases h
    · have hx : (a.to Int)[j] = (b.to Int)[j]'(hc' ▸ hc) := by rw [c3, e3] at h; simpa using h
      have := ih (j + 1) ⟨hc, take_succ_eq hc (hc' ▸ hc) hpre hx⟩ (by omega)
      rw [← wrap_succ hc (by omega)] at this
      exact this
  · have := of_decide_eq_false hc
    exact (decide_eq_true (list_eq_of hc' (by omega) hpre)).symm

theorem lawEqE : Law Try.prog 40 ((rdD.two rdD).sp spEvs) := by
  refine law_in _ (by kernel_rfl) fun H w ⟨a, b⟩ hok hp => ?_
  obtain ⟨ha, hb, hlen⟩ := hp _ (List.mem_singleton.2 rfl)
  simp only at ha hb hlen
  have hla := D.Is.length (α := Ev) a
  have hlb := D.Is.length (α := Ev) b
  apply exec_sound (noCtr _) 200
  rw [show (rdD.two rdD).canon (a, b) = [.dat a, .dat b] from rfl, eqe_in]
  refine ⟨fun hc => ret_lb ?_, fun hc => ?_⟩
  · exact same_not fun he => by simp [hla, hlb, he] at hc
  have hc' : (a.to Ev).length = (b.to Ev).length := by simp [hla, hlb] at hc; omega
  refine runs_loop (fun j : Nat => eqeL a b j) (fun j => j ≤ (a.to Ev).length ∧ (a.to Ev).take j = (b.to Ev).take j) (fun j => (a.to Ev).length - j) (fun _ => rfl) ?_ 0 ⟨Nat.zero_le _, rfl⟩
  intro j ⟨hj, hpre⟩ ih
  apply exec_sound (noCtr _) 200
  rw [eqe_go]
  refine ⟨fun hc _ => ?_, fun hc => ret_lb ?_⟩
  · have hc : j < (a.to Ev).length := by have := of_decide_eq_true hc; omega
    obtain ⟨c1, c2, c3⟩ := ev_cell ha hc
    obtain ⟨e1, e2, e3⟩ := ev_cell hb (hc' ▸ hc)
    refine ⟨⟨by omega, by omega, ha.size hc⟩, c1, ⟨by omega, by omega, hb.size (hc' ▸ hc)⟩, e1, fun h => ret_lb ?_, fun h => ?_⟩
    · refine same_not fun he => ?_
      simp only [Int.toNat_natCast, c2, c3, e2, e3, he, decide_true, Bool.and_true, Bool.not_true] at h
      cases h
    · have hx : (a.to Ev)[j] = (b.to Ev)[j]'(hc' ▸ hc) := by
        simp only [Int.toNat_natCast, c2, c3, e2, e3, Bool.and_true, Bool.not_eq_false', Bool.and_eq_true, decide_eq_true_eq] at h
        generalize (a.to Ev)[j] = x at h; generalize (b.to Ev)[j]'(hc' ▸ hc) = y at h
        obtain ⟨_, _⟩ := x; obtain ⟨_, _⟩ := y
        simp only at h; rw [h.1, h.2]
      have := ih (j + 1) ⟨hc, take_succ_eq hc (hc' ▸ hc) hpre hx⟩ (by omega)
      rw [← wrap_succ hc (by omega)] at this
      exact this
  · have := of_decide_eq_false hc
    exact (decide_eq_true (list_eq_of hc' (by omega) hpre)).symm

theorem lawEqIS : Law Try.prog 17 ((rdD.two rdD).sp spIntsS) :=
  law_sure lawEqI fun b => ⟨_, _, _, rfl, rfl, fun hp => by
    obtain ⟨h1, h2, h3, h4⟩ := hp _ (List.mem_singleton.2 rfl)
    exact ⟨fun p hp' => by rw [List.mem_singleton.1 hp']; exact ⟨h1, h2, h3⟩, decide_eq_true h4⟩⟩
theorem lawEqES : Law Try.prog 40 ((rdD.two rdD).sp spEvsS) :=
  law_sure lawEqE fun b => ⟨_, _, _, rfl, rfl, fun hp => by
    obtain ⟨h1, h2, h3, h4⟩ := hp _ (List.mem_singleton.2 rfl)
    exact ⟨fun p hp' => by rw [List.mem_singleton.1 hp']; exact ⟨h1, h2, h3⟩, decide_eq_true h4⟩⟩
theorem lawCkT : Law Try.prog 23 (rdHi.one.sp spCkT) :=
  law_tab lawChkH _ _ _ _ fun b h => ⟨_, _, rfl, fun _ p hp => by rw [List.mem_singleton.1 hp]; exact hiL_is h, rfl⟩
theorem lawBefTT : Law Try.prog 13 ((rdHi.three rdInt rdInt).sp spBefTT) :=
  law_tab lawBef _ _ _ _ fun b h => ⟨_, _, rfl, fun _ p hp => by rw [List.mem_singleton.1 hp]; exact hiL_is h, rfl⟩
theorem lawClsT : Law Try.prog 15 ((rdHi.two rdD).sp spClsT) :=
  law_tab lawCls _ _ _ _ fun b h => ⟨_, _, rfl, fun _ p hp => by rw [List.mem_singleton.1 hp]; have h := Bool.and_eq_true_iff.1 h; exact ⟨hiL_is h.1, setL_is h.2⟩, rfl⟩
theorem lawRestT : Law Try.prog 27 ((rdHi.two rdD).sp spRestT) :=
  law_tab2 lawRest _ _ _ _ fun b h => ⟨_, _, rfl, fun _ p hp => by rw [List.mem_singleton.1 hp]; have h := Bool.and_eq_true_iff.1 h; exact ⟨hiL_is h.1, setL_is h.2⟩, fun ds => ⟨ds, rfl⟩⟩
theorem lawAcdT : Law Try.prog 18 ((rdHi.two rdInt).sp spAcdT) :=
  law_tab2 lawAcd _ (fun _ => ()) _ (fun x _ => .data [] fun ds => .dat ((ds 0).like (ackedH x.1.hist x.2))) fun b h => ⟨_, _, rfl, fun _ p hp => by rw [List.mem_singleton.1 hp]; exact hiL_is h, fun ds => ⟨ds, rfl⟩⟩
noncomputable def ctT : Ctrs := [(23, ctrOf (rdHi.one.sp spCkT)), (13, ctrOf ((rdHi.three rdInt rdInt).sp spBefTT)), (15, ctrOf ((rdHi.two rdD).sp spClsT)), (27, ctrOf ((rdHi.two rdD).sp spRestT)),
  (18, ctrOf ((rdHi.two rdInt).sp spAcdT)), (17, ctrOf ((rdD.two rdD).sp spIntsS)), (40, ctrOf ((rdD.two rdD).sp spEvsS))]
theorem ctTOk : Ctrs.Ok Try.prog ctT := by
  intro x hx
  simp only [ctT, List.mem_cons, List.not_mem_nil, or_false] at hx
  rcases hx with rfl | rfl | rfl | rfl | rfl | rfl | rfl
  · exact ctrOf_ok lawCkT
  · exact ctrOf_ok lawBefTT
  · exact ctrOf_ok lawClsT
  · exact ctrOf_ok lawRestT
  · exact ctrOf_ok lawAcdT
  · exact ctrOf_ok lawEqIS
  · exact ctrOf_ok lawEqES
end Go.Proofs.Ytdiekahpofifeaa
end
section
open Go Go.Proofs Sx
namespace Go.Proofs.Ytdiekahpofifeaa
set_option maxRecDepth 100000
set_option maxHeartbeats 0
section
variable (n : Int)
theorem ex1_in : exec Try.prog [] 600 (entry Try.prog 68 [.int .i64 n]) =
 Tree.all fun hs =>
 .ret
 (.agg
 [.int .i64 0, .int .i64 n,
 .dat
 (D.slc (D.hd (hs 0 0)) 8
 [[D.int .u8 1, D.int .u8 0, D.int .u8 0, D.int .u8 0, D.int .u8 0,
 D.int .u8 0, D.int .u8 0, D.int .u8 0]])]) := by kernel_rfl

theorem ex_in : exec Try.prog [(68, ctrOf (rdInt.one.sp spEx1))] 600 (entry Try.prog 39 []) =
 Tree.all fun hs =>
 .all fun hs_1 =>
 .all fun hs_2 =>
 .all fun hs_3 =>
 .all fun hs_4 =>
 .all fun hs_5 =>
 .ret
 (.agg
 [.dat (D.slc (D.hd (hs 0 0)) 1 [[D.int .i64 4]]),
 .dat
 (D.slc (D.hd (hs_4 0 0)) 3
 [[D.int .i64 0, D.int .i64 0, pS (hs_1 0 0) [oneS]],
 [D.int .i64 0, D.int .i64 1, pS (hs_2 0 0) [oneS]],
 [D.int .i64 0, D.int .i64 2, pS (hs_3 0 0) [oneS]]]),
 .dat
 (D.slc (D.hd (hs_5 0 0)) 2
 [[D.int .i64 0, D.int .i64 0], [D.int .i64 0, D.int .i64 1],
 [D.int .i64 1, D.int .i64 0], [D.int .i64 0, D.int .i64 2]])]) := by kernel_rfl

end
end Go.Proofs.Ytdiekahpofifeaa
end
section
open Go Go.Proofs Sx
namespace Sx
theorem one_row (a : Hd) : (D.slc a 8 [[.int .u8 1, .int .u8 0, .int .u8 0, .int .u8 0, .int .u8 0, .int .u8 0, .int .u8 0, .int .u8 0]]).Is Sec :=
  ⟨_, _, _, rfl, .inr rfl, fun r hr => by rw [List.mem_singleton.1 hr]; exact ⟨_, _, _, _, _, _, _, _, rfl⟩⟩
theorem pS_is (d : D) (l : List Sec) : (pS d l).Is Sec := by
  refine ⟨_, _, _, rfl, ?_, ?_⟩
  · cases l with
    | nil => exact .inl rfl
    | cons x r => exact .inr rfl
  · intro r hr
    have : ∀ (l : List Sec) (i : Nat) (r : List D), r ∈ plainRows d i l → Codec.ok Sec r := by
      intro l
      induction l with
      | nil => intro i r hr; cases hr
      | cons x t ih =>
        intro i r hr
        simp only [plainRows, List.mem_cons] at hr
        rcases hr with rfl | hr
        · exact ⟨_, _, _, _, _, _, _, _, rfl⟩
        · exact ih _ _ hr
    exact this l 0 r hr
theorem pS_to (d : D) (l : List Sec) : (pS d l).to Sec = l := by
  have : ∀ (l : List Sec) (i : Nat), (plainRows d i l).map (Codec.dec (α := Sec)) = l := by
    intro l
    induction l with
    | nil => intro i; rfl
    | cons x t ih => intro i; simp only [plainRows, List.map_cons, ih]; rfl
  exact this l 0
end Sx
namespace Go.Proofs.Ytdiekahpofifeaa
set_option maxRecDepth 100000
theorem lawEx1 : Law Try.prog 68 (rdInt.one.sp spEx1) := by
  refine law_in _ (by kernel_rfl) fun H w n hok hp => ?_
  apply exec_sound (noCtr _) 600
  rw [show rdInt.one.canon n = [.int .i64 n] from rfl, ex1_in]
  intro hs
  have e := pS_self (one_row (D.hd (hs 0 0))) (l := [oneS]) rfl
  refine ret_D (fun _ => D.slc (D.hd (hs 0 0)) 8 [[.int .u8 1, .int .u8 0, .int .u8 0, .int .u8 0, .int .u8 0, .int .u8 0, .int .u8 0, .int .u8 0]]) (fun E E' => ?_) (fun H' h => ?_)
  · simp only [e, SV.den, SV.denL]
  · simp only [e]; exact h
theorem lawEx : Law Try.prog 39 (rdNone.sp spEx) := by
  refine law_in _ (by kernel_rfl) fun H w n hok hp => ?_
  apply exec_sound (cs := [(68, ctrOf (rdInt.one.sp spEx1))]) (by intro x hx; rw [List.mem_singleton.1 hx]; exact ctrOf_ok lawEx1) 600
  rw [show rdNone.canon n = [] from rfl, ex_in]
  intro h0 h1 h2 h3 h4 h5
  generalize hX : D.slc (D.hd (h0 0 0)) 1 [[D.int IntKind.i64 4]] = X
  generalize hY : D.slc (D.hd (h4 0 0)) 3 [[D.int IntKind.i64 0, D.int IntKind.i64 0, pS (h1 0 0) [oneS]], [D.int IntKind.i64 0, D.int IntKind.i64 1, pS (h2 0 0) [oneS]], [D.int IntKind.i64 0, D.int IntKind.i64 2, pS (h3 0 0) [oneS]]] = Y
  generalize hZ : D.slc (D.hd (h5 0 0)) 2 [[D.int IntKind.i64 0, D.int IntKind.i64 0], [D.int IntKind.i64 0, D.int IntKind.i64 1], [D.int IntKind.i64 1, D.int IntKind.i64 0], [D.int IntKind.i64 0, D.int IntKind.i64 2]] = Z
  have e1 : pI X [4] = X := pI_self (by rw [← hX]; exact allInt_is rfl) (by rw [← hX]; rfl)
  have e2 : pW Y [⟨0, 0, [oneS]⟩, ⟨0, 1, [oneS]⟩, ⟨0, 2, [oneS]⟩] = Y := by
    refine pW_self ?_ ?_
    · rw [← hY]
      refine ⟨_, _, _, rfl, .inr rfl, fun r hr => ?_⟩
      simp only [List.mem_cons, List.not_mem_nil, or_false] at hr
      rcases hr with rfl | rfl | rfl <;> exact ⟨_, _, _, rfl, pS_is _ _⟩
    · rw [← hY]
      show [Wt.mk 0 0 ((pS (h1 0 0) [oneS]).to Sec), Wt.mk 0 1 ((pS (h2 0 0) [oneS]).to Sec), Wt.mk 0 2 ((pS (h3 0 0) [oneS]).to Sec)] = _
      simp only [pS_to]
  have e3 : pE Z [⟨0, 0⟩, ⟨0, 1⟩, ⟨1, 0⟩, ⟨0, 2⟩] = Z := pE_self (by rw [← hZ]; exact allEv_is rfl) (by rw [← hZ]; rfl)
  refine ret_D (fun i => match i with | 0 => X | 1 => Y | _ => Z) (fun E E' => ?_) (fun H' h => ?_)
  · simp only [exSV, e1, e2, e3, SV.den, SV.denL]; rw [← hZ]
  · simp only [exSV, e1, e2, e3]; rw [← hZ]; exact h
end Go.Proofs.Ytdiekahpofifeaa
end
section
open Go Go.Proofs Sx
namespace Go.Proofs.Ytdiekahpofifeaa
set_option maxRecDepth 100000
set_option maxHeartbeats 0
noncomputable def ctA : Ctrs := (39, ctrOf (rdNone.sp spEx)) :: ctT
section
theorem awake_in : (execU Try.prog ctA (fun _ => true) 600 (entry Try.prog 12 [])).dec =
 Tree.all fun hs =>
 .all fun hs_1 =>
 .all fun hs_2 =>
 .all fun hs_3 =>
 .all fun hs_4 =>
 .all fun hs_5 =>
 .all fun hs_6 =>
 .all fun hs_7 =>
 .need
 (D.Is Ev
 (D.like (hs_2 0 2)
 (restE (D.to Int (D.slc (D.hd (hs_1 0 0)) 1 [[D.int .i64 0], [D.int .i64 2]]))
 (D.to Ev (pE (hs 0 2) [Ev.mk 0 0, Ev.mk 0 1, Ev.mk 1 0, Ev.mk 0 2])))) ∧
 D.Is Ev
 (D.slc (D.hd (hs_7 0 0)) 2
 [[D.int .i64 0, D.int .i64 0], [D.int .i64 1, D.int .i64 0],
 [D.int .i64 0, D.int .i64 1]]) ∧
 D.len
 (D.like (hs_2 0 2)
 (restE
 (D.to Int (D.slc (D.hd (hs_1 0 0)) 1 [[D.int .i64 0], [D.int .i64 2]]))
 (D.to Ev (pE (hs 0 2) [Ev.mk 0 0, Ev.mk 0 1, Ev.mk 1 0, Ev.mk 0 2])))) ≤
 1048576 ∧
 D.to Ev
 (D.like (hs_2 0 2)
 (restE
 (D.to Int (D.slc (D.hd (hs_1 0 0)) 1 [[D.int .i64 0], [D.int .i64 2]]))
 (D.to Ev (pE (hs 0 2) [Ev.mk 0 0, Ev.mk 0 1, Ev.mk 1 0, Ev.mk 0 2])))) =
 D.to Ev
 (D.slc (D.hd (hs_7 0 0)) 2
 [[D.int .i64 0, D.int .i64 0], [D.int .i64 1, D.int .i64 0],
 [D.int .i64 0, D.int .i64 1]]))
 (.all fun hs_8 =>
 .all fun hs_9 =>
 .need
 (D.Is Int
 (D.like (hs_8 0 0)
 (ackedH
 (HiD.hist
 (HiD.mk (pI (hs 0 0) [4])
 (pW (hs 0 1) [Wt.mk 0 0 [oneS], Wt.mk 0 1 [oneS], Wt.mk 0 2 [oneS]])
 (pE (hs 0 2) [Ev.mk 0 0, Ev.mk 0 1, Ev.mk 1 0, Ev.mk 0 2])))
 3)) ∧
 D.Is Int (D.slc (D.hd (hs_9 0 0)) 1 [[D.int .i64 0]]) ∧
 D.len
 (D.like (hs_8 0 0)
 (ackedH
 (HiD.hist
 (HiD.mk (pI (hs 0 0) [4])
 (pW (hs 0 1) [Wt.mk 0 0 [oneS], Wt.mk 0 1 [oneS], Wt.mk 0 2 [oneS]])
 (pE (hs 0 2) [Ev.mk 0 0, Ev.mk 0 1, Ev.mk 1 0, Ev.mk 0 2])))
 3)) ≤
 1048576 ∧
 D.to Int
 (D.like (hs_8 0 0)
 (ackedH
 (HiD.hist
 (HiD.mk (pI (hs 0 0) [4])
 (pW (hs 0 1) [Wt.mk 0 0 [oneS], Wt.mk 0 1 [oneS], Wt.mk 0 2 [oneS]])
 (pE (hs 0 2) [Ev.mk 0 0, Ev.mk 0 1, Ev.mk 1 0, Ev.mk 0 2])))
 3)) =
 D.to Int (D.slc (D.hd (hs_9 0 0)) 1 [[D.int .i64 0]]))
 (.ret (.lb true))) := by kernel_rfl

end
end Go.Proofs.Ytdiekahpofifeaa
end
section
open Go Go.Proofs Sx
namespace Sx
theorem like_len {α : Type} [Codec α] (d : D) (l : List α) : (d.like l).len = l.length := by rw [D.Is.length (α := α), D.like_to]
theorem like_needs {α : Type} [Codec α] {d e : D} {l : List α} (h1 : e.Is α) (h2 : l = e.to α) (h3 : l.length ≤ 1048576) : (d.like l).Is α ∧ e.Is α ∧ (d.like l).len ≤ 1048576 ∧ (d.like l).to α = e.to α :=
  ⟨D.like_is _ _, h1, by rw [like_len]; exact h3, by rw [D.like_to]; exact h2⟩
end Sx
namespace Go.Proofs.Ytdiekahpofifeaa
set_option maxRecDepth 100000
set_option maxHeartbeats 0
theorem ctAOk : Ctrs.Ok Try.prog ctA := by
  intro x hx
  rcases List.mem_cons.1 hx with rfl | hx
  · exact ctrOf_ok lawEx
  · exact ctTOk _ hx
theorem lawAwake : Law Try.prog 12 (rdNone.sp spTrue) := by
  refine law_in _ (by kernel_rfl) fun H w _ hok hp => ?_
  refine dec_sound ctAOk (fun _ => true) 600 (entry Try.prog 12 []) awake_in ?_
  intro h0 h1 h2 h3 h4 h5 h6 h7
  refine ⟨like_needs (allEv_is rfl) (by kernel_rfl) (Nat.le_of_ble_eq_true (by kernel_rfl)), fun h8 h9 => ⟨like_needs (allInt_is rfl) (by kernel_rfl) (Nat.le_of_ble_eq_true (by kernel_rfl)), ret_lbt⟩⟩
end Go.Proofs.Ytdiekahpofifeaa
end
section
open Go Go.Proofs Sx
namespace Go.Proofs.Ytdiekahpofifeaa
theorem lawSameHS : Law Try.prog 22 ((rdHi.two rdHi).sp spSameHS) :=
  law_sure lawSameH fun b => ⟨_, _, _, rfl, rfl, fun hp => by
    obtain ⟨h1, h2, h3, h4, h5⟩ := hp _ (List.mem_singleton.2 rfl)
    exact ⟨fun p hp' => by rw [List.mem_singleton.1 hp']; exact ⟨h1, h2, h3, h4⟩, decide_eq_true h5⟩⟩
noncomputable def ctL : Ctrs := [(11, ctrOf (rdHi.one.sp spFew)), (12, ctrOf (rdNone.sp spTrue)), (13, ctrOf ((rdHi.three rdInt rdInt).sp spBef)), (14, ctrOf ((rdHi.three rdInt rdInt).sp spBef)),
  (15, ctrOf ((rdHi.two rdD).sp spCls)), (16, ctrOf ((rdHi.two rdD).sp spCls)), (17, ctrOf ((rdD.two rdD).sp spIntsS)), (18, ctrOf ((rdHi.two rdInt).sp spAcd)), (19, ctrOf ((rdHi.two rdInt).sp spAcd)),
  (20, ctrOf (rdD.one.sp spNewH)), (21, ctrOf (rdD.one.sp spNewH)), (22, ctrOf ((rdHi.two rdHi).sp spSameHS)), (23, ctrOf (rdHi.one.sp spCkI)), (24, ctrOf (rdHi.one.sp spCkI)),
  (27, ctrOf ((rdHi.two rdD).sp spRest)), (28, ctrOf ((rdHi.two rdD).sp spRest)), (30, ctrOf ((rdHi.two rdWt).sp spIssueH)), (31, ctrOf ((rdHi.two rdWt).sp spIssueH)),
  (32, ctrOf ((rdHi.two rdInt).sp spAckH)), (33, ctrOf ((rdHi.two rdInt).sp spAckH))]
theorem ctLOk : Ctrs.Ok Try.prog ctL := by
  intro x hx
  simp only [ctL, List.mem_cons, List.not_mem_nil, or_false] at hx
  rcases hx with rfl | rfl | rfl | rfl | rfl | rfl | rfl | rfl | rfl | rfl | rfl | rfl | rfl | rfl | rfl | rfl | rfl | rfl | rfl | rfl
  · exact ctrOf_ok lawFew
  · exact ctrOf_ok lawAwake
  · exact ctrOf_ok lawBef
  · exact ctrOf_ok lawBefRef
  · exact ctrOf_ok lawCls
  · exact ctrOf_ok lawClsRef
  · exact ctrOf_ok lawEqIS
  · exact ctrOf_ok lawAcd
  · exact ctrOf_ok lawAcdR
  · exact ctrOf_ok lawNewH
  · exact ctrOf_ok lawNewHR
  · exact ctrOf_ok lawSameHS
  · exact ctrOf_ok lawChkH
  · exact ctrOf_ok lawCkR
  · exact ctrOf_ok lawRest
  · exact ctrOf_ok lawRestR
  · exact ctrOf_ok lawIssue
  · exact ctrOf_ok lawIssueR
  · exact ctrOf_ok lawAck
  · exact ctrOf_ok lawAckR
end Go.Proofs.Ytdiekahpofifeaa
end
section
open Go Go.Proofs Sx
namespace Go.Proofs.Ytdiekahpofifeaa
set_option maxRecDepth 100000
set_option maxHeartbeats 0
noncomputable def ctIm : Ctrs := (50, ctrOf (rdD.one.sp spNewI)) :: (59, ctrOf ((rdD.two rdD).sp spApplyI)) :: ctN
section
variable (ha hb hc a : D)
theorem him_in : execQ Try.prog ctIm 400 (entry Try.prog 25 [.agg [.dat ha, .dat hb, .dat hc], .dat a]) =
 Tree.need (HiD.Right (HiD.mk ha hb hc))
 (.all fun hs =>
 .br (Prod.fst (checkH (HiD.hist (HiD.mk ha hb hc))) != 0)
 (.ret (SV.tup [.nils, .int .i64 (Prod.fst (checkH (HiD.hist (HiD.mk ha hb hc))))]))
 (.need (D.Is Int a ∧ D.len a ≤ 1048576 ∧ D.Is Wt (onOk (Prod.fst (checkH (HiD.hist (HiD.mk ha hb hc)))) hb))
 (.br
 (!setH (D.to Int a)
 (↑(List.length (D.to Wt (onOk (Prod.fst (checkH (HiD.hist (HiD.mk ha hb hc)))) hb))) : Int))
 (.ret (SV.tup [.nils, .int .i64 2]))
 (.need (D.Is Int ha ∧ D.len ha ≤ 1048576)
 (.all fun hs_1 =>
 .leaf
 (Conf.mk
 (SFrm.mk 25 none none
 [Item.code (cAt Try.prog 25 [1, 1, 1, 1, 1, 1, 0, 1, 0]), Item.inBlock 0,
 Item.code (cAt Try.prog 25 [1, 1, 1, 1, 1, 1, 1])]
 (mkU
 [(0, SV.junk 0), (1, SV.junk 1), (2, SV.junk 2), (3, SV.junk 3), (4, SV.junk 4), (5, SV.junk 5),
 (6, SV.junk 6), (7, SV.junk 7), (8, .dat (D.like (hs_1 0 0) (imgOf (D.to Int ha)))),
 (9, SV.junk 9), (10, .ptr 0 0), (11, SV.junk 11), (13, SV.junk 13), (14, SV.junk 14),
 (15, SV.junk 15), (16, SV.junk 16), (17, SV.junk 17), (18, SV.junk 18), (19, SV.junk 19),
 (20, SV.junk 20), (21, SV.junk 21), (22, SV.junk 22), (23, SV.junk 23), (24, SV.junk 24),
 (25, SV.junk 25), (26, SV.junk 26), (27, SV.junk 27), (28, SV.junk 28), (29, SV.junk 29),
 (30, SV.junk 30), (31, SV.junk 31), (32, SV.junk 32), (33, SV.junk 33), (34, SV.junk 34),
 (35, SV.fn 75 [] [.ptr 1 0, .ptr 2 0]), (36, SV.junk 36), (42, SV.junk 42),
 (43, SV.junk 43), (44, SV.junk 44), (45, SV.junk 45), (46, SV.junk 46), (47, SV.junk 47),
 (48, SV.junk 48), (49, SV.junk 49), (50, SV.junk 50)]
 0 51))
 []
 [(0, OBlk.cells 23 [.nils]), (1, OBlk.cells 22 [.dat a]),
 (2,
 OBlk.cells 81
 [.dat (onOk (Prod.fst (checkH (HiD.hist (HiD.mk ha hb hc)))) ha),
 .dat (onOk (Prod.fst (checkH (HiD.hist (HiD.mk ha hb hc)))) hb),
 .dat (onOk (Prod.fst (checkH (HiD.hist (HiD.mk ha hb hc)))) hc),
 .dat (D.like (hs 0 0) (Tl.issued (Prod.snd (checkH (HiD.hist (HiD.mk ha hb hc)))))),
 .dat (D.like (hs 0 1) (Tl.acked (Prod.snd (checkH (HiD.hist (HiD.mk ha hb hc))))))])])))))) := by kernel_rfl

end
end Go.Proofs.Ytdiekahpofifeaa
end
section
open Go Go.Proofs Sx
namespace Go.Proofs.Ytdiekahpofifeaa
set_option maxRecDepth 100000
set_option maxHeartbeats 0
noncomputable def hiK : List Item := [Item.inBlock 0, Item.code (cAt Try.prog 25 [1, 1, 1, 1, 1, 1, 1])]
noncomputable def hiT (a im : D) : List SV := mkU [(0, SV.junk 0), (1, SV.junk 1), (2, SV.junk 2), (3, SV.junk 3), (4, SV.junk 4), (5, SV.junk 5), (6, SV.junk 6), (7, SV.junk 7), (8, .dat im), (9, SV.junk 9), (10, .ptr 100002 0), (11, SV.junk 11), (13, SV.junk 13), (14, SV.junk 14), (15, SV.junk 15), (16, SV.junk 16), (17, SV.junk 17), (18, SV.junk 18), (19, SV.junk 19), (20, SV.junk 20), (21, SV.junk 21), (22, SV.junk 22), (23, SV.junk 23), (24, SV.junk 24), (25, SV.junk 25), (26, SV.junk 26), (27, SV.junk 27), (28, SV.junk 28), (29, SV.junk 29), (30, SV.junk 30), (31, SV.junk 31), (32, SV.junk 32), (33, SV.junk 33), (34, SV.junk 34), (35, SV.fn 75 [] [.ptr 100003 0, .ptr 100004 0]), (36, SV.junk 36), (42, SV.junk 42), (43, SV.junk 43), (44, SV.junk 44), (45, SV.junk 45), (46, SV.junk 46), (47, SV.junk 47), (48, SV.junk 48), (49, SV.junk 49), (50, SV.junk 50)] 0 51
noncomputable def hiM (ha hb hc i o a q : D) : Mem := (100003, OBlk.cells 22 [.dat a]) :: (100004, OBlk.cells 81 [.dat ha, .dat hb, .dat hc, .dat i, .dat o]) :: [(100002, OBlk.cells 23 [.vec 9]), (9, OBlk.arr 55 q)]
noncomputable def hiN (ha hb hc i o a q : D) (z : Int) : Mem := (1012, OBlk.cells 55 [.int .i64 (hb.getInt (Int.toNat z) 0), .int .i64 (hb.getInt (Int.toNat z) 1), .dat (hb.cell (Int.toNat z) 2)]) :: hiM ha hb hc i o a q
noncomputable def hiR (hb a im : D) (z : Int) : List SV := ((hiT a im).set 36 (.int .i64 z)).set 37 (wvH hb z)
theorem hiF1 : cAt Try.prog 25 [1, 1, 1, 1, 1, 1, 0, 1, 0] = .rangeFunc (.tmp 35) #[36, 37] (cAt Try.prog 25 [1, 1, 1, 1, 1, 1, 0, 1, 0, 0]) (cAt Try.prog 25 [1, 1, 1, 1, 1, 1, 0, 1, 0, 1]) := by kernel_rfl
section
variable (ha hb hc i o a q im : D) (z : Int)
theorem hia_go : execP Try.prog [] 100 ⟨⟨25, none, none, [.code (cAt Try.prog 25 [1, 1, 1, 1, 1, 1, 0, 1, 0, 0])], hiR hb a im z⟩, [], hiM ha hb hc i o a q⟩ =
 Tree.leaf
 (Conf.mk
 (SFrm.mk 25 none none []
 (mkU
 [(0, SV.junk 0), (1, SV.junk 1), (2, SV.junk 2), (3, SV.junk 3), (4, SV.junk 4), (5, SV.junk 5), (6, SV.junk 6),
 (7, SV.junk 7), (8, .dat im), (9, SV.junk 9), (10, .ptr 100002 0), (11, SV.junk 11), (12, .ptr 1012 0),
 (13, SV.junk 13), (14, SV.junk 14), (15, SV.junk 15), (16, SV.junk 16), (17, SV.junk 17), (18, SV.junk 18),
 (19, SV.junk 19), (20, SV.junk 20), (21, SV.junk 21), (22, SV.junk 22), (23, SV.junk 23), (24, SV.junk 24),
 (25, SV.junk 25), (26, SV.junk 26), (27, SV.junk 27), (28, SV.junk 28), (29, SV.junk 29), (30, SV.junk 30),
 (31, SV.junk 31), (32, SV.junk 32), (33, SV.junk 33), (34, SV.junk 34),
 (35, SV.fn 75 [] [.ptr 100003 0, .ptr 100004 0]), (36, .int .i64 z),
 (37,
 .agg
 [.int .i64 (D.getInt hb (Int.toNat z) 0), .int .i64 (D.getInt hb (Int.toNat z) 1),
 .dat (D.cell hb (Int.toNat z) 2)]),
 (42, SV.junk 42), (43, SV.junk 43), (44, SV.junk 44), (45, SV.junk 45), (46, SV.junk 46), (47, SV.junk 47),
 (48, SV.junk 48), (49, SV.junk 49), (50, SV.junk 50)]
 0 51))
 []
 [(1012,
 OBlk.cells 55
 [.int .i64 (D.getInt hb (Int.toNat z) 0), .int .i64 (D.getInt hb (Int.toNat z) 1),
 .dat (D.cell hb (Int.toNat z) 2)]),
 (100003, OBlk.cells 22 [.dat a]), (100004, OBlk.cells 81 [.dat ha, .dat hb, .dat hc, .dat i, .dat o]),
 (100002, OBlk.cells 23 [.vec 9]), (9, OBlk.arr 55 q)]) := by kernel_rfl

theorem hib_go : execP Try.prog [] 100 ⟨⟨25, none, none, [.code (cAt Try.prog 25 [1, 1, 1, 1, 1, 1, 0, 1, 0, 1])], (hiR hb a im z).set 12 (.ptr 1012 0)⟩, [], hiN ha hb hc i o a q z⟩ =
 Tree.all fun hs =>
 .need
 (D.sz q = 3 ∧
 D.Fits
 (D.slc (D.hd (hs 0 0)) 3
 [[D.int .i64 (D.getInt hb (Int.toNat z) 0), D.int .i64 (D.getInt hb (Int.toNat z) 1),
 D.cell hb (Int.toNat z) 2]])
 3 ∧
 (D.len q +
 D.len
 (D.slc (D.hd (hs 0 0)) 3
 [[D.int .i64 (D.getInt hb (Int.toNat z) 0), D.int .i64 (D.getInt hb (Int.toNat z) 1),
 D.cell hb (Int.toNat z) 2]])) *
 40 ≤
 140737488355328 ∧
 D.len q +
 D.len
 (D.slc (D.hd (hs 0 0)) 3
 [[D.int .i64 (D.getInt hb (Int.toNat z) 0), D.int .i64 (D.getInt hb (Int.toNat z) 1),
 D.cell hb (Int.toNat z) 2]]) ≤
 9223372036854775807)
 (.all fun hs_1 =>
 .leaf
 (Conf.mk
 (SFrm.mk 25 none none []
 (mkJ 0
 [(8, .dat im), (10, .ptr 100002 0), (12, .ptr 1012 0),
 (35, SV.fn 75 [] [.ptr 100003 0, .ptr 100004 0]), (36, .int .i64 z),
 (37,
 .agg
 [.int .i64 (D.getInt hb (Int.toNat z) 0), .int .i64 (D.getInt hb (Int.toNat z) 1),
 .dat (D.cell hb (Int.toNat z) 2)]),
 (38, .vec 9),
 (39,
 .agg
 [.int .i64 (D.getInt hb (Int.toNat z) 0), .int .i64 (D.getInt hb (Int.toNat z) 1),
 .dat (D.cell hb (Int.toNat z) 2)]),
 (40, .vec 1040), (41, .vec 1041)]
 0 51))
 []
 [(1041,
 OBlk.arr 55
 (D.slc (D.hd (hs_1 0 0)) 3
 (List.append (D.rows q)
 (D.rows
 (D.slc (D.hd (hs 0 0)) 3
 [[D.int .i64 (D.getInt hb (Int.toNat z) 0),
 D.int .i64 (D.getInt hb (Int.toNat z) 1), D.cell hb (Int.toNat z) 2]]))))),
 (1040,
 OBlk.arr 55
 (D.slc (D.hd (hs 0 0)) 3
 [[D.int .i64 (D.getInt hb (Int.toNat z) 0), D.int .i64 (D.getInt hb (Int.toNat z) 1),
 D.cell hb (Int.toNat z) 2]])),
 (1012,
 OBlk.cells 55
 [.int .i64 (D.getInt hb (Int.toNat z) 0), .int .i64 (D.getInt hb (Int.toNat z) 1),
 .dat (D.cell hb (Int.toNat z) 2)]),
 (100003, OBlk.cells 22 [.dat a]),
 (100004, OBlk.cells 81 [.dat ha, .dat hb, .dat hc, .dat i, .dat o]),
 (100002, OBlk.cells 23 [.vec 1041])])) := by kernel_rfl

theorem hie_in : exec Try.prog ctIm 400 ⟨⟨25, none, none, hiK, hiT a im⟩, [], hiM ha hb hc i o a q⟩ =
 Tree.need
 (D.Is Vol im ∧
 D.len im ≤ 1048576 ∧
 D.Is Wt q ∧ D.len q ≤ 1048576 ∧ ∀ (w : Wt), List.Mem w (D.to Wt q) → List.length (Wt.data w) ≤ 1048576)
 (.all fun hs =>
 .ret
 (SV.tup
 [.dat (D.like (hs 0 0) (Prod.fst (applyI (D.to Vol im) (D.to Wt q)))),
 .int .i64 (Prod.snd (Prod.snd (applyI (D.to Vol im) (D.to Wt q))))])) := by kernel_rfl

end
end Go.Proofs.Ytdiekahpofifeaa
end
section
open Go Go.Proofs Sx
namespace Go.Proofs.Ytdiekahpofifeaa
set_option maxRecDepth 100000
theorem ctImOk : Ctrs.Ok Try.prog ctIm := by
  intro x hx
  rcases List.mem_cons.1 hx with rfl | hx
  · exact ctrOf_ok lawNewI
  rcases List.mem_cons.1 hx with rfl | hx
  · exact ctrOf_ok lawApply
  · exact ctNOk x hx
theorem ret_imI {w : World} {H : HV} {X : SV} {vs : List Vol} {n : Int} {r : List Vol × Int} (hx : Stands Vol X vs) (e1 : r.1 = vs) (e2 : r.2 = n) : (Tree.ret (.tup [X, .int .i64 n])).holds Try.prog ⟨w, H⟩ (RetD w H fun ds => .tup [.dat ((ds 0).like r.1), .int .i64 r.2]) := by
  obtain ⟨d, k1, k2, k3, k4⟩ := hx
  subst e1
  subst e2
  refine ⟨rfl, fun E H' w' g hv => ⟨H', after_good g, fun _ => d, fun E' => ?_, ?_⟩⟩
  · simp only [SV.den, SV.denL, k1, D.like_self k2 k3]
  · simp only [SV.Ok, SV.OkL] at hv ⊢
    rw [D.like_self k2 k3]
    exact ⟨⟨k4 _ hv.1, k2.slc⟩, trivial, trivial⟩
section
variable {H : HV} {w : World} {ha hb hc a im : D} (hR : (HiD.mk ha hb hc).Right) (hra : a.Is Int) (hla : a.len ≤ 1048576)
  (h0 : (checkH (HiD.mk ha hb hc).hist).1 = 0) (h2 : setH (a.to Int) (hb.to Wt).length = true) (him : ImgOk im) (hit : im.to Vol = imgOf (ha.to Int))
include hR hra hla h0 h2 him hit
theorem him_loop {i o : D} {q0 : D} (hq0 : q0 = .slc none 3 []) :
    Runs Try.prog ⟨w, H⟩ ⟨⟨25, none, none, Item.code (cAt Try.prog 25 [1, 1, 1, 1, 1, 1, 0, 1, 0]) :: hiK, hiT a im⟩, [], hiM ha hb hc i o a q0⟩ (RetD w H fun ds => .tup [.dat ((ds 0).like (imageH (HiD.mk ha hb hc).hist (a.to Int)).1), .int .i64 (imageH (HiD.mk ha hb hc).hist (a.to Int)).2]) := by
  obtain ⟨ra, rb, rc, la, lb, lc, rd⟩ := id hR
  simp only at ra rb rc la lb lc rd
  have al := D.Is.length (α := Int) a
  have bl := D.Is.length (α := Wt) hb
  rw [hiF1]
  refine runs_range icode (mm := fun q : D => hiM ha hb hc i o a q) (Inv := fun j q => q.Is Wt ∧ q.sz = 3 ∧ q.len = j ∧ q.to Wt = pickW (hb.to Wt) ((a.to Int).take j)) (Stop := fun _ => False)
    (c1W (fun q : D => [(100002, OBlk.cells 23 [SV.vec 9]), (9, OBlk.arr 55 q)]) _ hra rb hla (fun j hj => by
      have hj' : j < (a.to Int).length := by omega
      have := setH_in h2 hj'
      rw [(int_at hra hj').2.2, bl]
      exact this))
    q0 ⟨by rw [hq0]; exact is_nil _ _, by rw [hq0]; rfl, by rw [hq0]; rfl, by rw [hq0]; rfl⟩ rfl rfl rfl rfl rfl rfl (fun _ => rfl) (fun j => (hiR hb a im (a.getInt (Int.toNat (j : Int)) 0)).set 12 (.ptr 1012 0)) (fun j q => hiN ha hb hc i o a q (a.getInt (Int.toNat (j : Int)) 0)) ?_ ?_ ?_ ?_
  · intro C1 q j hrd hj hi
    apply execP_sound (noCtr _) 100
    refine holds_of (hia_go ha hb hc i o a q im (a.getInt (Int.toNat (j : Int)) 0)) ?_
    exact end_here hrd ⟨rfl, rfl, rfl⟩
  · intro C1 q j hrd hj ⟨hq, hqs, hql, hqt⟩
    have hj' : j < (a.to Int).length := by omega
    have hz := (int_at hra hj').2.2
    have hzr := setH_in h2 hj'
    obtain ⟨z, hzz⟩ := Int.eq_ofNat_of_zero_le hzr.1
    have hzb : z < (hb.to Wt).length := by omega
    obtain ⟨c1, c2, c3⟩ := wt_cell rb hzb
    apply execP_sound (noCtr _) 100
    rw [hib_go, hz, hzz]
    simp only [Int.toNat_natCast]
    refine fun hs1 => ⟨⟨hqs, .inr rfl, by simp only [len_slc, List.length_cons, List.length_nil]; omega, by simp only [len_slc, List.length_cons, List.length_nil]; omega⟩, fun hs2 => ?_⟩
    have hr := rows_app (rows_of hq) (wt_one (hb.getInt z 0) (hb.getInt z 1) c2)
    obtain ⟨i1, i2⟩ := is_of (h := D.hd (hs2 0 0)) (s := 3) rfl hr
    refine end_here hrd ⟨fun _ => ⟨_, ?_, i1, rfl, ?_, i2.trans ?_⟩, fun h => by cases h⟩
    · refine (MemTo.sub (.cons₂ _ (.cons _ (.cons _ (.refl _))))).trans ((MemTo.move 1041 9 rfl).trans ?_)
      exact MemTo.perm (List.perm_append_comm (l₁ := [_, _, _]) (l₂ := [_]))
    · simp only [len_slc, append_list, List.length_append, rows_slc, List.length_cons, List.length_nil]
      have : q.rows.length = q.len := rfl
      omega
    · rw [hqt, pickW_snoc hj', hzz]
      congr 1
      have : (hb.to Wt).getD (Int.toNat (z : Int)) zWt = (hb.to Wt)[z] := by simp [hzb]
      rw [this, c3]
  · intro D2 q ⟨hq, hqs, hql, hqt⟩
    apply exec_sound ctImOk 400
    rw [hie_in]
    have hqt : q.to Wt = pickW (hb.to Wt) (a.to Int) := by rw [hqt, al, List.take_length]
    refine ⟨⟨him.1, him.2.1, hq, by omega, fun x hx => ?_⟩, fun hs => ?_⟩
    · have hx : x ∈ q.to Wt := hx
      rw [hqt] at hx
      exact rd x (pickW_mem (setH_iff.1 h2).2 hx)
    · refine ret_marked (ret_imI stands_like ?_ ?_)
      all_goals
        rw [hit, hqt]
        unfold imageH
        rw [if_neg (by simp [h0]), if_neg (by rw [show (HiD.mk ha hb hc).hist.writes = hb.to Wt from rfl, h2]; decide)]
        rfl
  · exact fun _ _ h => h.elim
end
theorem lawImgH : Law Try.prog 25 ((rdHi.two rdD).sp spImgH) := by
  refine law_in _ (by kernel_rfl) fun H w ⟨⟨ha, hb, hc⟩, a⟩ hok hp => ?_
  obtain ⟨hR, hra, hla⟩ := hp _ (List.mem_singleton.2 rfl)
  simp only at hR hra hla
  obtain ⟨ra, rb, rc, la, lb, lc, rd⟩ := id hR
  simp only at ra rb rc la lb lc rd
  apply execQ_sound ctImOk 400
  rw [show (rdHi.two rdD).canon (⟨ha, hb, hc⟩, a) = [.agg [.dat ha, .dat hb, .dat hc], .dat a] from rfl, him_in]
  refine ⟨hR, fun hs => ⟨fun h => ?_, fun h => ?_⟩⟩
  · have h : (checkH (HiD.mk ha hb hc).hist).1 ≠ 0 := by simpa using h
    refine ret_imI stands_nils ?_ ?_ <;> (unfold imageH; rw [if_pos h])
  have h0 : (checkH (HiD.mk ha hb hc).hist).1 = 0 := by simpa using h
  simp only [h0, onOk_ok]
  refine ⟨⟨hra, hla, rb⟩, fun h2 => ?_, fun h2 => ⟨⟨ra, la⟩, fun hs1 => ?_⟩⟩
  · have h2 : setH (a.to Int) (hb.to Wt).length = false := by simpa using h2
    have e := imageH_e2 (h := (HiD.mk ha hb hc).hist) (set := a.to Int) h0 h2
    exact ret_imI stands_nils (by rw [e]) (by rw [e])
  · have h2 : setH (a.to Int) (hb.to Wt).length = true := by simpa using h2
    have hz := (checkH_iff.1 h0).1
    have hz : sizesErr (ha.to Int) = 0 := hz
    have hio := img_ok hz (hs1 0 0)
    have hit := D.like_to (hs1 0 0) (imgOf (ha.to Int))
    generalize D.like (hs1 0 0) (imgOf (ha.to Int)) = im at hio hit
    generalize D.like (hs 0 0) (checkH (HiD.mk ha hb hc).hist).2.issued = i
    generalize D.like (hs 0 1) (checkH (HiD.mk ha hb hc).hist).2.acked = o
    refine pin_to 100002 ⟨⟨25, none, none, Item.code (cAt Try.prog 25 [1, 1, 1, 1, 1, 1, 0, 1, 0]) :: hiK, hiT a im⟩, [], [(100002, OBlk.cells 23 [SV.nils]), (100003, OBlk.cells 22 [SV.dat a]), (100004, OBlk.cells 81 [SV.dat ha, SV.dat hb, SV.dat hc, SV.dat i, SV.dat o])]⟩ (by kernel_rfl) ?_ rfl
    refine vecIn_sound (K := 9) (e := 55) (sz := 3) (blk := some 100002) (off := 0) (c' := ⟨⟨25, none, none, Item.code (cAt Try.prog 25 [1, 1, 1, 1, 1, 1, 0, 1, 0]) :: hiK, hiT a im⟩, [], (9, OBlk.arr 55 (.slc none 3 [])) :: [(100002, OBlk.cells 23 [SV.vec 9]), (100003, OBlk.cells 22 [SV.dat a]), (100004, OBlk.cells 81 [SV.dat ha, SV.dat hb, SV.dat hc, SV.dat i, SV.dat o])]⟩) (by kernel_rfl) ?_
    refine runs_perm (hiM ha hb hc i o a (.slc none 3 [])) ?_ (him_loop hR hra hla h0 h2 hio hit rfl)
    exact ((List.perm_append_comm (l₁ := [(100003, OBlk.cells 22 [SV.dat a]), (100004, OBlk.cells 81 [SV.dat ha, SV.dat hb, SV.dat hc, SV.dat i, SV.dat o])]) (l₂ := [(100002, OBlk.cells 23 [SV.vec 9])])).append_right [(9, OBlk.arr 55 (.slc none 3 []))]).trans List.perm_append_comm
end Go.Proofs.Ytdiekahpofifeaa
end
section
open Go Go.Proofs Sx
namespace Go.Proofs.Ytdiekahpofifeaa
set_option maxRecDepth 100000
set_option maxHeartbeats 0
noncomputable def ctRI : Ctrs := (60, ctrOf (rdD.one.sp spNewI)) :: (61, ctrOf ((rdD.two rdD).sp spApplyI)) :: ctNR
noncomputable def ctSh : Ctrs := (25, ctrOf ((rdHi.two rdD).sp spImgH)) :: (26, ctrOf ((rdHi.two rdD).sp spImgH)) :: (29, ctrOf ((rdD.two rdD).sp spSameI)) :: ctL
section
variable (ha hb hc a : D)
theorem ri_in : exec Try.prog ctRI 400 (entry Try.prog 26 [.agg [.dat ha, .dat hb, .dat hc], .dat a]) =
 Tree.need (HiD.Right (HiD.mk ha hb hc))
 (.br (Prod.fst (checkH (HiD.hist (HiD.mk ha hb hc))) != 0)
 (.ret (SV.tup [.nils, .int .i64 (Prod.fst (checkH (HiD.hist (HiD.mk ha hb hc))))]))
 (.need (D.Is Int a ∧ D.len a ≤ 1048576)
 (.br (!setH (D.to Int a) (↑(D.len hb) : Int)) (.ret (SV.tup [.nils, .int .i64 2]))
 (.need (D.Is Int ha ∧ D.len ha ≤ 1048576)
 (.all fun hs =>
 .leaf
 (Conf.mk
 (SFrm.mk 26 none none
 [Item.inLoop (cAt Try.prog 26 [1, 1, 1, 1, 1, 0, 1, 0, 0]), Item.inBlock 0,
 Item.code (cAt Try.prog 26 [1, 1, 1, 1, 1, 1])]
 (mkJ 0
 [(1, .dat a), (2, .ptr 0 0), (7, .dat (D.like (hs 0 0) (imgOf (D.to Int ha)))), (9, .nils),
 (10, .int .i64 0)]
 0 57))
 [] [(0, OBlk.cells 26 [.dat ha, .dat hb, .dat hc])])))))) := by kernel_rfl

theorem shw_in : 
 let z1 := (Prod.fst (restrictH (HiD.hist (HiD.mk ha hb hc)) (D.to Int a)))
 let z2 := (Prod.fst (imageH (HiD.hist (HiD.mk ha hb hc)) (D.to Int a)))
 exec Try.prog ctSh 400 (entry Try.prog 5 [.agg [.dat ha, .dat hb, .dat hc], .dat a]) =
 Tree.need (D.Is Int ha ∧ D.Is Wt hb ∧ D.Is Ev hc) (.br (!fewH (HiD.hist (HiD.mk ha hb hc))) (.ret (.lb true)) (.br (decide ((↑(D.len a) : Int) > 50)) (.ret (.lb true)) (.need (HiD.Right (HiD.mk ha hb hc) ∧ D.Is Int a ∧ D.len a ≤ 1048576)
 (.all fun hs => .need (HiD.Right (HiD.mk ha hb hc) ∧ D.Is Int a ∧ D.len a ≤ 1048576) (.all fun hs_1 => .need (HiD.Right (HiD.mk ha hb hc) ∧ D.Is Int a ∧ D.len a ≤ 1048576) (.all fun hs_2 => .need (HiD.Right
 (HiD.mk ha hb hc) ∧ D.Is Int a ∧ D.len a ≤ 1048576) (.all fun hs_3 => .need (D.Is Vol (D.like (hs 0 0) z2) ∧ D.Is Vol (D.like (hs_1 0 0) z2) ∧ D.len (D.like (hs 0 0) z2) ≤ 1048576 ∧ D.len (D.like (hs_1 0 0) z2) ≤ 1048576 ∧
 (∀ (v : Vol), List.Mem v (D.to Vol (D.like (hs 0 0) z2)) → List.length (Vol.l v) ≤ 1048576) ∧ ∀ (v : Vol), List.Mem v (D.to Vol (D.like (hs_1 0 0) z2)) → List.length (Vol.l v) ≤ 1048576) (.br (decide (D.to Vol
 (D.like (hs 0 0) z2) = D.to Vol (D.like (hs_1 0 0) z2))) (.br (decide (Prod.snd (imageH (HiD.hist (HiD.mk ha hb hc)) (D.to Int a)) = Prod.snd (imageH (HiD.hist (HiD.mk ha hb hc)) (D.to Int a)))) (.need
 (HiD.Right (HiD.mk (D.like (hs_2 0 0) (Hist.sizes z1)) (D.like (hs_2 0 1) (Hist.writes z1)) (D.like (hs_2 0 2) (Hist.events z1))) ∧ D.Is Int (D.like (hs_3 0 0) (Hist.sizes z1)) ∧ D.Is Wt (D.like (hs_3 0 1)
 (Hist.writes z1)) ∧ D.Is Ev (D.like (hs_3 0 2) (Hist.events z1)) ∧ HiD.hist (HiD.mk (D.like (hs_2 0 0) (Hist.sizes z1)) (D.like (hs_2 0 1) (Hist.writes z1)) (D.like (hs_2 0 2) (Hist.events z1))) = HiD.hist
 (HiD.mk (D.like (hs_3 0 0) (Hist.sizes z1)) (D.like (hs_3 0 1) (Hist.writes z1)) (D.like (hs_3 0 2) (Hist.events z1)))) (.br (decide (Prod.snd (restrictH (HiD.hist (HiD.mk ha hb hc)) (D.to Int a)) = Prod.snd
 (restrictH (HiD.hist (HiD.mk ha hb hc)) (D.to Int a)))) (.ret (.lb true)) (.ret (.lb false)))) (.ret (.lb false))) (.ret (.lb false)))))))))) := by
 intros; kernel_rfl

end
end Go.Proofs.Ytdiekahpofifeaa
end
section
open Go Go.Proofs Sx
namespace Go.Proofs.Ytdiekahpofifeaa
set_option maxRecDepth 100000
set_option maxHeartbeats 0
noncomputable def riL (ha hb hc a q im : D) (j : Int) : Conf := Conf.mk (SFrm.mk 26 none none [Item.inLoop (cAt Try.prog 26 [1, 1, 1, 1, 1, 0, 1, 0, 0]), Item.inBlock 0, Item.code (cAt Try.prog 26 [1, 1, 1, 1, 1, 1])] (mkJ 0 [(1, .dat a), (2, .ptr 0 0), (7, .dat im), (9, .vec 1), (10, .int .i64 j)] 0 57)) [] [(0, OBlk.cells 26 [.dat ha, .dat hb, .dat hc]), (1, .arr 55 q)]
section
variable (ha hb hc a q im : D) (j : Int)
theorem ri_go : exec Try.prog ctRI 400 (unroll (riL ha hb hc a q im j)) =
 Tree.br (decide (j < (↑(D.len a) : Int)))
 (.all fun hs =>
 .need (0 ≤ j ∧ j < (↑(D.len a) : Int) ∧ D.sz a = 1)
 (.need (D.HasCell a (Int.toNat j) 0 (FT.int .i64))
 (.need (0 ≤ D.getInt a (Int.toNat j) 0 ∧ D.getInt a (Int.toNat j) 0 < (↑(D.len hb) : Int) ∧ D.sz hb = 3)
 (.need
 (D.HasCells hb (Int.toNat (D.getInt a (Int.toNat j) 0)) 0 [FT.int .i64, FT.int .i64, FT.slc])
 (.need
 (D.sz q = 3 ∧
 D.Fits
 (D.slc (D.hd (hs 9 0)) 3
 [[D.int .i64 (D.getInt hb (Int.toNat (D.getInt a (Int.toNat j) 0)) 0),
 D.int .i64 (D.getInt hb (Int.toNat (D.getInt a (Int.toNat j) 0)) 1),
 D.cell hb (Int.toNat (D.getInt a (Int.toNat j) 0)) 2]])
 3 ∧
 (D.len q +
 D.len
 (D.slc (D.hd (hs 9 0)) 3
 [[D.int .i64 (D.getInt hb (Int.toNat (D.getInt a (Int.toNat j) 0)) 0),
 D.int .i64 (D.getInt hb (Int.toNat (D.getInt a (Int.toNat j) 0)) 1),
 D.cell hb (Int.toNat (D.getInt a (Int.toNat j) 0)) 2]])) *
 40 ≤
 140737488355328 ∧
 D.len q +
 D.len
 (D.slc (D.hd (hs 9 0)) 3
 [[D.int .i64 (D.getInt hb (Int.toNat (D.getInt a (Int.toNat j) 0)) 0),
 D.int .i64 (D.getInt hb (Int.toNat (D.getInt a (Int.toNat j) 0)) 1),
 D.cell hb (Int.toNat (D.getInt a (Int.toNat j) 0)) 2]]) ≤
 9223372036854775807)
 (.leaf
 (Conf.mk
 (SFrm.mk 26 none none
 [Item.inLoop (cAt Try.prog 26 [1, 1, 1, 1, 1, 0, 1, 0, 0]), Item.inBlock 0,
 Item.code (cAt Try.prog 26 [1, 1, 1, 1, 1, 1])]
 (mkJ 0
 [(1, .dat a), (2, .ptr 0 0), (7, .dat im), (9, .vec 1),
 (10, .int .i64 (IntKind.wrap .i64 (j + 1)))]
 0 57))
 []
 [(0, OBlk.cells 26 [.dat ha, .dat hb, .dat hc]),
 (1,
 OBlk.arr 55
 (D.slc (D.hd (hs 10 0)) 3
 (List.append (D.rows q)
 (D.rows
 (D.slc (D.hd (hs 9 0)) 3
 [[D.int .i64 (D.getInt hb (Int.toNat (D.getInt a (Int.toNat j) 0)) 0),
 D.int .i64 (D.getInt hb (Int.toNat (D.getInt a (Int.toNat j) 0)) 1),
 D.cell hb (Int.toNat (D.getInt a (Int.toNat j) 0)) 2]])))))])))))))
 (.need
 (D.Is Vol im ∧
 D.len im ≤ 1048576 ∧
 D.Is Wt q ∧ D.len q ≤ 1048576 ∧ ∀ (w : Wt), List.Mem w (D.to Wt q) → List.length (Wt.data w) ≤ 1048576)
 (.all fun hs =>
 .ret
 (SV.tup
 [.dat (D.like (hs 0 0) (Prod.fst (applyI (D.to Vol im) (D.to Wt q)))),
 .int .i64 (Prod.snd (Prod.snd (applyI (D.to Vol im) (D.to Wt q))))]))) := by kernel_rfl

end
end Go.Proofs.Ytdiekahpofifeaa
end
section
open Go Go.Proofs Sx
namespace Sx
def spShw (x : HiD × D) : SpecR := .scalar [(x.1.s.Is Int ∧ x.1.w.Is Wt ∧ x.1.e.Is Ev) ∧ x.2.Is Int] (.lb true)
theorem imageH_any {h : Hist} {s : List Int} : (imageH h s).1.length ≤ 1048576 ∧ ∀ v, v ∈ (imageH h s).1 → v.l.length ≤ 1048576 := by
  by_cases h0 : (checkH h).1 = 0
  · cases h2 : setH s h.writes.length with
    | true => exact imageH_small h0 h2
    | false => rw [imageH_e2 h0 h2]; exact ⟨by simp, by simp⟩
  · have e : imageH h s = ([], (checkH h).1) := by unfold imageH; rw [if_pos h0]
    rw [e]; exact ⟨by simp, by simp⟩
end Sx
namespace Go.Proofs.Ytdiekahpofifeaa
set_option maxRecDepth 100000
set_option maxHeartbeats 0
theorem ctRIOk : Ctrs.Ok Try.prog ctRI := by
  intro x hx
  rcases List.mem_cons.1 hx with rfl | hx
  · exact ctrOf_ok lawNewIR
  rcases List.mem_cons.1 hx with rfl | hx
  · exact ctrOf_ok lawApplyR
  · exact ctNROk x hx
theorem lawImgHR : Law Try.prog 26 ((rdHi.two rdD).sp spImgH) := by
  refine law_in _ (by kernel_rfl) fun H w ⟨⟨ha, hb, hc⟩, a⟩ hok hp => ?_
  obtain ⟨hR, hra, hla⟩ := hp _ (List.mem_singleton.2 rfl)
  simp only at hR hra hla
  obtain ⟨ra, rb, rc, la, lb, lc, rd⟩ := id hR
  simp only at ra rb rc la lb lc rd
  have al := D.Is.length (α := Int) a
  have bl := D.Is.length (α := Wt) hb
  apply exec_sound ctRIOk 400
  rw [show (rdHi.two rdD).canon (⟨ha, hb, hc⟩, a) = [.agg [.dat ha, .dat hb, .dat hc], .dat a] from rfl, ri_in, bl]
  refine ⟨hR, fun h => ?_, fun h => ?_⟩
  · have h : (checkH (HiD.mk ha hb hc).hist).1 ≠ 0 := by simpa using h
    refine ret_imI stands_nils ?_ ?_ <;> (unfold imageH; rw [if_pos h])
  have h0 : (checkH (HiD.mk ha hb hc).hist).1 = 0 := by simpa using h
  refine ⟨⟨hra, hla⟩, fun h2 => ?_, fun h2 => ⟨⟨ra, la⟩, fun hs1 => ?_⟩⟩
  · have h2 : setH (a.to Int) (hb.to Wt).length = false := by simpa using h2
    have e := imageH_e2 (h := (HiD.mk ha hb hc).hist) (set := a.to Int) h0 h2
    exact ret_imI stands_nils (by rw [e]) (by rw [e])
  have h2 : setH (a.to Int) (hb.to Wt).length = true := by simpa using h2
  have hz := (checkH_iff.1 h0).1
  have hz : sizesErr (ha.to Int) = 0 := hz
  have him := img_ok hz (hs1 0 0)
  have hit := D.like_to (hs1 0 0) (imgOf (ha.to Int))
  generalize D.like (hs1 0 0) (imgOf (ha.to Int)) = im at him hit
  refine vecIn_to 1 55 3 none 9 (riL ha hb hc a (.slc none 3 []) im 0) (by kernel_rfl) ?_
  refine runs_loop (fun p : D × Nat => riL ha hb hc a p.1 im p.2) (fun p => p.2 ≤ (a.to Int).length ∧ p.1.Is Wt ∧ p.1.sz = 3 ∧ p.1.to Wt = pickW (hb.to Wt) ((a.to Int).take p.2)) (fun p => (a.to Int).length - p.2) (fun _ => rfl) ?_ (.slc none 3 [], 0) ⟨Nat.zero_le _, is_nil _ _, rfl, rfl⟩
  intro ⟨q, j⟩ ⟨hj, hq, hqz, hqt⟩ ih
  simp only at hj hq hqz hqt
  have ql := D.Is.length (α := Wt) q
  rw [hqt, pickW_len, List.length_take] at ql
  show Runs Try.prog _ (unroll (riL ha hb hc a q im j)) _
  apply exec_sound ctRIOk 400
  rw [ri_go]
  refine ⟨fun hcj hs => ?_, fun hcj => ?_⟩
  · have hcj : j < (a.to Int).length := by have := of_decide_eq_true hcj; omega
    obtain ⟨d1, d2, d3⟩ := int_at hra hcj
    have hzr := setH_in h2 hcj
    obtain ⟨z, hzz⟩ := Int.eq_ofNat_of_zero_le hzr.1
    have hzb : z < (hb.to Wt).length := by omega
    obtain ⟨c1, c2, c3⟩ := wt_cell rb hzb
    rw [d3, hzz]
    rw [Int.toNat_natCast z]
    refine ⟨d1, d2, ⟨by omega, by omega, rb.size hzb⟩, c1, ⟨hqz, .inr rfl, by simp only [len_slc, List.length_cons, List.length_nil]; omega, by simp only [len_slc, List.length_cons, List.length_nil]; omega⟩, ?_⟩
    have hr := rows_app (rows_of hq) (wt_one (hb.getInt z 0) (hb.getInt z 1) c2)
    obtain ⟨i1, i2⟩ := is_of (h := D.hd (hs 10 0)) (s := 3) rfl hr
    have := ih (_, j + 1) ⟨hcj, i1, rfl, i2.trans (by
      rw [hqt, pickW_snoc hcj, hzz]
      congr 1
      have : (hb.to Wt).getD (Int.toNat (z : Int)) zWt = (hb.to Wt)[z] := by simp [hzb]
      rw [this, c3])⟩ (by simp only; omega)
    simp only at this
    rw [← wrap_succ hcj (by omega)] at this
    exact this
  · have : j = (a.to Int).length := by have := of_decide_eq_false hcj; omega
    subst this
    rw [List.take_length] at hqt
    refine ⟨⟨him.1, him.2.1, hq, by omega, fun x hx => ?_⟩, fun hs => ?_⟩
    · have hx : x ∈ q.to Wt := hx
      rw [hqt] at hx
      exact rd x (pickW_mem (setH_iff.1 h2).2 hx)
    · refine ret_imI stands_like ?_ ?_
      all_goals
        rw [hit, hqt]
        unfold imageH
        rw [if_neg (by simp [h0]), if_neg (by rw [show (HiD.mk ha hb hc).hist.writes = hb.to Wt from rfl, h2]; decide)]
        rfl
theorem ctShOk : Ctrs.Ok Try.prog ctSh := by
  intro x hx
  rcases List.mem_cons.1 hx with rfl | hx
  · exact ctrOf_ok lawImgH
  rcases List.mem_cons.1 hx with rfl | hx
  · exact ctrOf_ok lawImgHR
  rcases List.mem_cons.1 hx with rfl | hx
  · exact ctrOf_ok lawSameI
  · exact ctLOk _ hx
theorem lawShw : Law Try.prog 5 ((rdHi.two rdD).sp spShw) := by
  refine law_in _ (by kernel_rfl) fun H w ⟨⟨ha, hb, hc⟩, a⟩ hok hp => ?_
  obtain ⟨⟨h1, h2, h3⟩, h4⟩ := hp _ (List.mem_singleton.2 rfl)
  simp only at h1 h2 h3 h4
  apply exec_sound ctShOk 400
  rw [show (rdHi.two rdD).canon (⟨ha, hb, hc⟩, a) = [.agg [.dat ha, .dat hb, .dat hc], .dat a] from rfl, shw_in]
  have al := D.Is.length (α := Int) a
  refine ⟨⟨h1, h2, h3⟩, fun _ => ret_lbt, fun hf => ⟨fun _ => ret_lbt, fun la => ?_⟩⟩
  have la := of_decide_eq_false la
  have hf : fewH (HiD.mk ha hb hc).hist = true := by simpa using hf
  have hR := (few_right (x := ⟨ha, hb, hc⟩) h1 h2 h3 hf).1
  have n1 : (HiD.mk ha hb hc).Right ∧ a.Is Int ∧ a.len ≤ 1048576 := ⟨hR, h4, by omega⟩
  have hk : HistOk (HiD.mk ha hb hc).hist := by
    obtain ⟨k1, k2, k3, k4, k5, k6, k7⟩ := hR
    rw [D.Is.length (α := Int)] at k4
    rw [D.Is.length (α := Wt)] at k5
    rw [D.Is.length (α := Ev)] at k6
    exact ⟨k4, k5, k6, k7⟩
  have hk2 := rest_histOk (s := a.to Int) hk (by omega)
  have ia := imageH_any (h := (HiD.mk ha hb hc).hist) (s := a.to Int)
  refine ⟨n1, fun hs => ⟨n1, fun hs1 => ⟨n1, fun hs2 => ⟨n1, fun hs3 => ⟨?_, fun _ => ⟨fun _ => ⟨same_need hk2, fun _ => ret_lbt, fun hx => ?_⟩, fun hx => ?_⟩, fun hx => ?_⟩⟩⟩⟩⟩
  · exact ⟨D.like_is _ _, D.like_is _ _, by rw [llen]; exact ia.1, by rw [llen]; exact ia.1, by rw [D.like_to]; exact ia.2, by rw [D.like_to]; exact ia.2⟩
  · exfalso; simp at hx
  · exfalso; simp at hx
  · exfalso; simp only [D.like_to] at hx; simp at hx
end Go.Proofs.Ytdiekahpofifeaa
end
