/- Layer 21: the law of flight. -/
import Derived.Test.YtoechplbhbalaaaBW16gtoBW27g
import Derived.KernelRfl
import Derived.Test.YtoechplbhbalaaaBW8gtoBW15
import Derived.Test.YtoechplbhbalaaaCdtoBW7g
set_option linter.all false
section
open Go Go.Proofs Sx
namespace Sx
theorem flightG_nil {g : Gr} {k w : Int} (h : g.flight.length = 0) : flightG g k w = g := by
  unfold flightG
  exact if_pos h
theorem flightG_go {g : Gr} {k w : Int} {i : Nat} {m : Msg} (h : ¬g.flight.length = 0) (hi : (Int.tmod w g.flight.length).toNat = i) (hm : g.flight.getD i noMsg = m) :
    flightG g k w = if Int.tmod k 7 = 5 then (if Int.tmod k 7 = 4 then g else { g with flight := g.flight.take i ++ g.flight.drop (i + 1) }) else recvG (if Int.tmod k 7 = 4 then g else { g with flight := g.flight.take i ++ g.flight.drop (i + 1) }) m := by
  subst hi; subst hm
  unfold flightG
  exact if_neg h
end Sx
namespace Go.Proofs.Ytoechplbhbalaaa
set_option maxRecDepth 100000
set_option maxHeartbeats 0

theorem flight_ent {w : World} {H : HV} {cn cr cp cdl : Int} {cps css : D} {cv : Bool} {p1 p2 p3 p4 : Int} {pf : Bool} {p6 : Int} {pw ph : D} {q1 q2 q3 q4 : Int} {qf : Bool} {q6 : Int} {qw qh : D} {r1 r2 r3 r4 : Int} {rf : Bool} {r6 : Int} {rw rh : D} {fl wa wb wc : D} {now clk : Int} {rt : Bool} {st : Int} {ek en ew : Int} (hek : U8 ek) (hew : U8 ew) (hR : GrRight (CV.int cn :: CV.int cr :: CV.int cp :: CV.int cdl :: CV.dat cps :: CV.dat css :: CV.bool cv :: CV.int p1 :: CV.int p2 :: CV.int p3 :: CV.int p4 :: CV.bool pf :: CV.int p6 :: CV.dat pw :: CV.dat ph :: CV.int q1 :: CV.int q2 :: CV.int q3 :: CV.int q4 :: CV.bool qf :: CV.int q6 :: CV.dat qw :: CV.dat qh :: CV.int r1 :: CV.int r2 :: CV.int r3 :: CV.int r4 :: CV.bool rf :: CV.int r6 :: CV.dat rw :: CV.dat rh :: CV.dat fl :: CV.dat wa :: CV.dat wb :: CV.dat wc :: CV.int now :: CV.int clk :: CV.bool rt :: CV.int st :: [])) (hr : (flightG (grOf (CV.int cn :: CV.int cr :: CV.int cp :: CV.int cdl :: CV.dat cps :: CV.dat css :: CV.bool cv :: CV.int p1 :: CV.int p2 :: CV.int p3 :: CV.int p4 :: CV.bool pf :: CV.int p6 :: CV.dat pw :: CV.dat ph :: CV.int q1 :: CV.int q2 :: CV.int q3 :: CV.int q4 :: CV.bool qf :: CV.int q6 :: CV.dat qw :: CV.dat qh :: CV.int r1 :: CV.int r2 :: CV.int r3 :: CV.int r4 :: CV.bool rf :: CV.int r6 :: CV.dat rw :: CV.dat rh :: CV.dat fl :: CV.dat wa :: CV.dat wb :: CV.dat wc :: CV.int now :: CV.int clk :: CV.bool rt :: CV.int st :: [])) ek ew).right = true) :
    Runs Try.prog ⟨w, H⟩ (entry Try.prog 48 [.agg [.int .i64 cn, .int .i64 cr, .int .i64 cp, .int .i64 cdl, .dat cps, .dat css, .bool cv, .int .i64 p1, .int .i64 p2, .int .i64 p3, .int .i64 p4, .bool pf, .int .i64 p6, .dat pw, .dat ph, .int .i64 q1, .int .i64 q2, .int .i64 q3, .int .i64 q4, .bool qf, .int .i64 q6, .dat qw, .dat qh, .int .i64 r1, .int .i64 r2, .int .i64 r3, .int .i64 r4, .bool rf, .int .i64 r6, .dat rw, .dat rh, .dat fl, .dat wa, .dat wb, .dat wc, .int .i64 now, .int .i64 clk, .bool rt, .int .i64 st], .agg [.int .u8 ek, .int .u8 en, .int .u8 ew]]) (RetD w H fun ds => .agg (svOf ds 0 (flightG (grOf (CV.int cn :: CV.int cr :: CV.int cp :: CV.int cdl :: CV.dat cps :: CV.dat css :: CV.bool cv :: CV.int p1 :: CV.int p2 :: CV.int p3 :: CV.int p4 :: CV.bool pf :: CV.int p6 :: CV.dat pw :: CV.dat ph :: CV.int q1 :: CV.int q2 :: CV.int q3 :: CV.int q4 :: CV.bool qf :: CV.int q6 :: CV.dat qw :: CV.dat qh :: CV.int r1 :: CV.int r2 :: CV.int r3 :: CV.int r4 :: CV.bool rf :: CV.int r6 :: CV.dat rw :: CV.dat rh :: CV.dat fl :: CV.dat wa :: CV.dat wb :: CV.dat wc :: CV.int now :: CV.int clk :: CV.bool rt :: CV.int st :: [])) ek ew).cls)) := by
  have hR0 := hR
  rw [grRight_eq] at hR
  obtain ⟨⟨hc1, hc2⟩, hp, hq, hr', ⟨hf, hfl⟩, ⟨ha, hal⟩, ⟨hb, hbl⟩, ⟨hcc, hcl⟩⟩ := hR
  have hp' := hp; have hq' := hq; have hr2 := hr'
  obtain ⟨hpw, hph, hpl, hpm⟩ := hp'
  obtain ⟨hqw, hqh, hql, hqm⟩ := hq'
  obtain ⟨hrw, hrh, hrl, hrm⟩ := hr2
  simp only at hpw hph hpl hpm hqw hqh hql hqm hrw hrh hrl hrm
  have l1 := D.Is.length (α := Msg) fl
  have l2 := rows_len (rows_of hf)
  have i1 : fl.Is Msg := hf
  have i2 : fl.to Msg = fl.to Msg := rfl
  have e1 : IntKind.i64.wrap ew = ew := wrap64 (by have := hew.1; omega) (by have := hew.2; omega)
  apply exec_sound ctROk 900
  rw [flight_in, e1]
  refine ⟨fun h0 => ?_, fun h0 => ?_⟩
  · have h0 : ((fl.len : Nat) : Int) = 0 := of_decide_eq_true h0
    have e : flightG (grOf (CV.int cn :: CV.int cr :: CV.int cp :: CV.int cdl :: CV.dat cps :: CV.dat css :: CV.bool cv :: CV.int p1 :: CV.int p2 :: CV.int p3 :: CV.int p4 :: CV.bool pf :: CV.int p6 :: CV.dat pw :: CV.dat ph :: CV.int q1 :: CV.int q2 :: CV.int q3 :: CV.int q4 :: CV.bool qf :: CV.int q6 :: CV.dat qw :: CV.dat qh :: CV.int r1 :: CV.int r2 :: CV.int r3 :: CV.int r4 :: CV.bool rf :: CV.int r6 :: CV.dat rw :: CV.dat rh :: CV.dat fl :: CV.dat wa :: CV.dat wb :: CV.dat wc :: CV.int now :: CV.int clk :: CV.bool rt :: CV.int st :: [])) ek ew = (grOf (CV.int cn :: CV.int cr :: CV.int cp :: CV.int cdl :: CV.dat cps :: CV.dat css :: CV.bool cv :: CV.int p1 :: CV.int p2 :: CV.int p3 :: CV.int p4 :: CV.bool pf :: CV.int p6 :: CV.dat pw :: CV.dat ph :: CV.int q1 :: CV.int q2 :: CV.int q3 :: CV.int q4 :: CV.bool qf :: CV.int q6 :: CV.dat qw :: CV.dat qh :: CV.int r1 :: CV.int r2 :: CV.int r3 :: CV.int r4 :: CV.bool rf :: CV.int r6 :: CV.dat rw :: CV.dat rh :: CV.dat fl :: CV.dat wa :: CV.dat wb :: CV.dat wc :: CV.int now :: CV.int clk :: CV.bool rt :: CV.int st :: [])) := flightG_nil (by rw [grOf_eq]; simp only; omega)
    rw [e, grOf_eq, cls_tri]
    refine ret_cells ?_
    repeat' first
    | exact .nil
    | refine .cons ?_ ?_
    | exact rfl
    | exact fun _ => rfl
    | exact lst_ok (stands_dat i1 i2)
    | exact lst_ok (stands_self (by assumption))
    | fail
  · have h0 : ¬((fl.len : Nat) : Int) = 0 := of_decide_eq_false h0
    have t0 : 0 ≤ Int.tmod ew fl.len := Int.tmod_nonneg _ hew.1
    have t1 : Int.tmod ew fl.len < fl.len := Int.tmod_lt_of_pos _ (by omega)
    obtain ⟨k, hk⟩ : ∃ k : Nat, Int.tmod ew fl.len = k := ⟨(Int.tmod ew fl.len).toNat, by omega⟩
    have hkl : k < (fl.to Msg).length := by omega
    have e2 : IntKind.i64.wrap ((k : Int) + 1) = ((k + 1 : Nat) : Int) := by rw [wrap64 (by omega) (by omega)]; omega
    rw [hk, e2]
    obtain ⟨m0, m1, m2, m3, m4, m5, m6, m7, m8, m9, m10⟩ := msg_cell hf hkl
    have hm : MsgD.msg (MsgD.mk (D.getInt fl (Int.toNat (k : Int)) 0) (D.getInt fl (Int.toNat (k : Int)) 1) (D.getInt fl (Int.toNat (k : Int)) 2) (D.getInt fl (Int.toNat (k : Int)) 3) (D.getInt fl (Int.toNat (k : Int)) 4) (D.getInt fl (Int.toNat (k : Int)) 5) (D.cell fl (Int.toNat (k : Int)) 6) (D.cell fl (Int.toNat (k : Int)) 7)) = (fl.to Msg)[k] := by
      simp only [MsgD.msg, Int.toNat_natCast, m1, m2, m3, m4, m5, m6, m8, m10]
    have hd := flightG_go (g := (grOf (CV.int cn :: CV.int cr :: CV.int cp :: CV.int cdl :: CV.dat cps :: CV.dat css :: CV.bool cv :: CV.int p1 :: CV.int p2 :: CV.int p3 :: CV.int p4 :: CV.bool pf :: CV.int p6 :: CV.dat pw :: CV.dat ph :: CV.int q1 :: CV.int q2 :: CV.int q3 :: CV.int q4 :: CV.bool qf :: CV.int q6 :: CV.dat qw :: CV.dat qh :: CV.int r1 :: CV.int r2 :: CV.int r3 :: CV.int r4 :: CV.bool rf :: CV.int r6 :: CV.dat rw :: CV.dat rh :: CV.dat fl :: CV.dat wa :: CV.dat wb :: CV.dat wc :: CV.int now :: CV.int clk :: CV.bool rt :: CV.int st :: []))) (k := ek) (w := ew) (i := k) (m := (fl.to Msg)[k]) (by rw [grOf_eq]; simp only; omega) (by rw [grOf_eq]; simp only; rw [← l1, hk]; rfl) (by rw [grOf_eq]; simp [hkl])
    have n7 : (7 : Int) ≠ 0 := by decide
    have nA : 0 ≤ (k : Int) ∧ (k : Int) < ((fl.len : Nat) : Int) ∧ fl.sz = 8 := ⟨by omega, by omega, hf.size hkl⟩
    have nB : fl.HasCells (Int.toNat (k : Int)) 0 [.int .i64, .int .i64, .int .i64, .int .i64, .int .i64, .int .i64, .slc, .slc] := m0
    obtain ⟨s1, s2⟩ := hf.sub 0 (Int.toNat (k : Int))
    obtain ⟨s3, s4⟩ := hf.sub (Int.toNat ((k + 1 : Nat) : Int)) (Int.toNat ((D.len fl : Nat) : Int))
    have s2 : (D.sub fl 0 (Int.toNat (k : Int))).to Msg = (fl.to Msg).take k := by rw [s2]; simp
    have s4 : (D.sub fl (Int.toNat ((k + 1 : Nat) : Int)) (Int.toNat ((D.len fl : Nat) : Int))).to Msg = (fl.to Msg).drop (k + 1) := by
      rw [s4]; simp only [Int.toNat_natCast]; rw [List.take_of_length_le (by rw [List.length_drop]; omega)]
    have sl1 : (D.sub fl 0 (Int.toNat (k : Int))).len = k := by rw [D.Is.length (α := Msg), s2, List.length_take]; omega
    have sl2 : (D.sub fl (Int.toNat ((k + 1 : Nat) : Int)) (Int.toNat ((D.len fl : Nat) : Int))).len = fl.len - (k + 1) := by rw [D.Is.length (α := Msg), s4, List.length_drop]; omega
    have srl1 := rows_len (rows_of s1)
    rw [s2, List.length_take] at srl1
    refine ⟨h0, nA, nB, n7, fun h4 hs => ?_, fun h4 => ?_⟩
    · have h4 : ¬Int.tmod ek 7 = 4 := by simpa using h4
      rw [if_neg h4] at hd
      have hrr : SRows Msg (List.append (List.append [] (D.rows (D.sub fl 0 (Int.toNat (k : Int))))) (D.rows (D.sub fl (Int.toNat ((k + 1 : Nat) : Int)) (Int.toNat ((D.len fl : Nat) : Int))))) ((fl.to Msg).take k ++ (fl.to Msg).drop (k + 1)) := by
        rw [← s2, ← s4]; exact rows_app (rows_of s1) (rows_of s3)
      obtain ⟨i1, i2⟩ := is_of (h := D.hd (hs 11 0)) (s := 8) rfl hrr
      have eg : grOf (CV.int cn :: CV.int cr :: CV.int cp :: CV.int cdl :: CV.dat cps :: CV.dat css :: CV.bool cv :: CV.int p1 :: CV.int p2 :: CV.int p3 :: CV.int p4 :: CV.bool pf :: CV.int p6 :: CV.dat pw :: CV.dat ph :: CV.int q1 :: CV.int q2 :: CV.int q3 :: CV.int q4 :: CV.bool qf :: CV.int q6 :: CV.dat qw :: CV.dat qh :: CV.int r1 :: CV.int r2 :: CV.int r3 :: CV.int r4 :: CV.bool rf :: CV.int r6 :: CV.dat rw :: CV.dat rh :: CV.dat (D.slc (D.hd (hs 11 0)) 8 (List.append (D.rows (D.slc (D.hd (hs 5 0)) 8 (List.append (D.rows (D.slc (D.hd (hs 0 0)) 8 [])) (D.rows (D.sub fl 0 (Int.toNat (k : Int))))))) (D.rows (D.sub fl (Int.toNat ((k + 1 : Nat) : Int)) (Int.toNat ((D.len fl : Nat) : Int)))))) :: CV.dat wa :: CV.dat wb :: CV.dat wc :: CV.int now :: CV.int clk :: CV.bool rt :: CV.int st :: []) = { (grOf (CV.int cn :: CV.int cr :: CV.int cp :: CV.int cdl :: CV.dat cps :: CV.dat css :: CV.bool cv :: CV.int p1 :: CV.int p2 :: CV.int p3 :: CV.int p4 :: CV.bool pf :: CV.int p6 :: CV.dat pw :: CV.dat ph :: CV.int q1 :: CV.int q2 :: CV.int q3 :: CV.int q4 :: CV.bool qf :: CV.int q6 :: CV.dat qw :: CV.dat qh :: CV.int r1 :: CV.int r2 :: CV.int r3 :: CV.int r4 :: CV.bool rf :: CV.int r6 :: CV.dat rw :: CV.dat rh :: CV.dat fl :: CV.dat wa :: CV.dat wb :: CV.dat wc :: CV.int now :: CV.int clk :: CV.bool rt :: CV.int st :: [])) with flight := (grOf (CV.int cn :: CV.int cr :: CV.int cp :: CV.int cdl :: CV.dat cps :: CV.dat css :: CV.bool cv :: CV.int p1 :: CV.int p2 :: CV.int p3 :: CV.int p4 :: CV.bool pf :: CV.int p6 :: CV.dat pw :: CV.dat ph :: CV.int q1 :: CV.int q2 :: CV.int q3 :: CV.int q4 :: CV.bool qf :: CV.int q6 :: CV.dat qw :: CV.dat qh :: CV.int r1 :: CV.int r2 :: CV.int r3 :: CV.int r4 :: CV.bool rf :: CV.int r6 :: CV.dat rw :: CV.dat rh :: CV.dat fl :: CV.dat wa :: CV.dat wb :: CV.dat wc :: CV.int now :: CV.int clk :: CV.bool rt :: CV.int st :: [])).flight.take k ++ (grOf (CV.int cn :: CV.int cr :: CV.int cp :: CV.int cdl :: CV.dat cps :: CV.dat css :: CV.bool cv :: CV.int p1 :: CV.int p2 :: CV.int p3 :: CV.int p4 :: CV.bool pf :: CV.int p6 :: CV.dat pw :: CV.dat ph :: CV.int q1 :: CV.int q2 :: CV.int q3 :: CV.int q4 :: CV.bool qf :: CV.int q6 :: CV.dat qw :: CV.dat qh :: CV.int r1 :: CV.int r2 :: CV.int r3 :: CV.int r4 :: CV.bool rf :: CV.int r6 :: CV.dat rw :: CV.dat rh :: CV.dat fl :: CV.dat wa :: CV.dat wb :: CV.dat wc :: CV.int now :: CV.int clk :: CV.bool rt :: CV.int st :: [])).flight.drop (k + 1) } := by
        rw [grOf_eq, grOf_eq]
        exact congrArg (fun z : List Msg => (⟨⟨cn, cr, cp, cdl, cps.to Int, css.to Bool, cv⟩, _, z, _, now, clk, rt, st⟩ : Gr)) i2
      have ela : (List.append (D.rows (D.slc (D.hd (hs 0 0)) 8 [])) (D.rows (D.sub fl 0 (Int.toNat (k : Int))))).length = (D.rows (D.sub fl 0 (Int.toNat (k : Int)))).length := rfl
      refine ⟨⟨by omega, by omega, by omega, hf.fits⟩, ⟨rfl, s1.fits, by rw [sl1]; simp only [len_slc, List.length_nil]; omega, by rw [sl1]; simp only [len_slc, List.length_nil]; omega⟩,
        ⟨by omega, by omega, Int.le_refl _, hf.fits⟩, ⟨rfl, s3.fits, by rw [sl2]; simp only [len_slc, ela]; omega, by rw [sl2]; simp only [len_slc, ela]; omega⟩, n7, fun h5 => ?_, fun h5 => ?_⟩
      · have h5 : Int.tmod ek 7 = 5 := of_decide_eq_true h5
        rw [hd, if_pos h5, ← eg, grOf_eq, cls_tri]
        refine ret_cells ?_
        repeat' first
        | exact .nil
        | refine .cons ?_ ?_
        | exact rfl
        | exact fun _ => rfl
        | exact lst_ok (stands_dat i1 i2)
        | exact lst_ok (stands_self (by assumption))
        | fail
      · have h5 : ¬Int.tmod ek 7 = 5 := of_decide_eq_false h5
        rw [hd, if_neg h5] at hr ⊢
        rw [hm]
        have hR' : GrRight (CV.int cn :: CV.int cr :: CV.int cp :: CV.int cdl :: CV.dat cps :: CV.dat css :: CV.bool cv :: CV.int p1 :: CV.int p2 :: CV.int p3 :: CV.int p4 :: CV.bool pf :: CV.int p6 :: CV.dat pw :: CV.dat ph :: CV.int q1 :: CV.int q2 :: CV.int q3 :: CV.int q4 :: CV.bool qf :: CV.int q6 :: CV.dat qw :: CV.dat qh :: CV.int r1 :: CV.int r2 :: CV.int r3 :: CV.int r4 :: CV.bool rf :: CV.int r6 :: CV.dat rw :: CV.dat rh :: CV.dat (D.slc (D.hd (hs 11 0)) 8 (List.append (D.rows (D.slc (D.hd (hs 5 0)) 8 (List.append (D.rows (D.slc (D.hd (hs 0 0)) 8 [])) (D.rows (D.sub fl 0 (Int.toNat (k : Int))))))) (D.rows (D.sub fl (Int.toNat ((k + 1 : Nat) : Int)) (Int.toNat ((D.len fl : Nat) : Int)))))) :: CV.dat wa :: CV.dat wb :: CV.dat wc :: CV.int now :: CV.int clk :: CV.bool rt :: CV.int st :: []) := by
          rw [grRight_eq]
          exact ⟨⟨hc1, hc2⟩, hp, hq, hr', ⟨i1, Nat.le_trans (Nat.le_of_eq ((D.Is.length (α := Msg) _).trans (congrArg List.length i2))) (by rw [List.length_append, List.length_take, List.length_drop]; omega)⟩, ⟨ha, hal⟩, ⟨hb, hbl⟩, ⟨hcc, hcl⟩⟩
        refine ⟨⟨hR', trivial, ?_⟩, fun hs1 => ?_⟩
        · exact (congrArg (fun z => (recvG z (fl.to Msg)[k]).right) eg).trans hr
        · have := (ret_D (P := Try.prog) (w := w) (H := H) (v := .agg (svOf (hs1 0) 0 (recvG (grOf (CV.int cn :: CV.int cr :: CV.int cp :: CV.int cdl :: CV.dat cps :: CV.dat css :: CV.bool cv :: CV.int p1 :: CV.int p2 :: CV.int p3 :: CV.int p4 :: CV.bool pf :: CV.int p6 :: CV.dat pw :: CV.dat ph :: CV.int q1 :: CV.int q2 :: CV.int q3 :: CV.int q4 :: CV.bool qf :: CV.int q6 :: CV.dat qw :: CV.dat qh :: CV.int r1 :: CV.int r2 :: CV.int r3 :: CV.int r4 :: CV.bool rf :: CV.int r6 :: CV.dat rw :: CV.dat rh :: CV.dat (D.slc (D.hd (hs 11 0)) 8 (List.append (D.rows (D.slc (D.hd (hs 5 0)) 8 (List.append (D.rows (D.slc (D.hd (hs 0 0)) 8 [])) (D.rows (D.sub fl 0 (Int.toNat (k : Int))))))) (D.rows (D.sub fl (Int.toNat ((k + 1 : Nat) : Int)) (Int.toNat ((D.len fl : Nat) : Int)))))) :: CV.dat wa :: CV.dat wb :: CV.dat wc :: CV.int now :: CV.int clk :: CV.bool rt :: CV.int st :: [])) (fl.to Msg)[k]).cls)) (g := fun ds => .agg (svOf ds 0 (recvG (grOf (CV.int cn :: CV.int cr :: CV.int cp :: CV.int cdl :: CV.dat cps :: CV.dat css :: CV.bool cv :: CV.int p1 :: CV.int p2 :: CV.int p3 :: CV.int p4 :: CV.bool pf :: CV.int p6 :: CV.dat pw :: CV.dat ph :: CV.int q1 :: CV.int q2 :: CV.int q3 :: CV.int q4 :: CV.bool qf :: CV.int q6 :: CV.dat qw :: CV.dat qh :: CV.int r1 :: CV.int r2 :: CV.int r3 :: CV.int r4 :: CV.bool rf :: CV.int r6 :: CV.dat rw :: CV.dat rh :: CV.dat (D.slc (D.hd (hs 11 0)) 8 (List.append (D.rows (D.slc (D.hd (hs 5 0)) 8 (List.append (D.rows (D.slc (D.hd (hs 0 0)) 8 [])) (D.rows (D.sub fl 0 (Int.toNat (k : Int))))))) (D.rows (D.sub fl (Int.toNat ((k + 1 : Nat) : Int)) (Int.toNat ((D.len fl : Nat) : Int)))))) :: CV.dat wa :: CV.dat wb :: CV.dat wc :: CV.int now :: CV.int clk :: CV.bool rt :: CV.int st :: [])) (fl.to Msg)[k]).cls)) (hs1 0) (fun _ _ => rfl) (fun _ h => h))
          rw [← eg]
          exact this
    · have h4 : Int.tmod ek 7 = 4 := by simpa using h4
      rw [if_pos h4] at hd
      refine ⟨n7, fun h5 => ?_, fun h5 => ?_⟩
      · have h5 : Int.tmod ek 7 = 5 := of_decide_eq_true h5
        omega
      · have h5 : ¬Int.tmod ek 7 = 5 := of_decide_eq_false h5
        rw [hd, if_neg h5] at hr ⊢
        rw [hm]
        refine ⟨⟨hR0, trivial, hr⟩, fun hs1 => ?_⟩
        exact ret_D (P := Try.prog) (w := w) (H := H) (v := .agg (svOf (hs1 0) 0 (recvG (grOf (CV.int cn :: CV.int cr :: CV.int cp :: CV.int cdl :: CV.dat cps :: CV.dat css :: CV.bool cv :: CV.int p1 :: CV.int p2 :: CV.int p3 :: CV.int p4 :: CV.bool pf :: CV.int p6 :: CV.dat pw :: CV.dat ph :: CV.int q1 :: CV.int q2 :: CV.int q3 :: CV.int q4 :: CV.bool qf :: CV.int q6 :: CV.dat qw :: CV.dat qh :: CV.int r1 :: CV.int r2 :: CV.int r3 :: CV.int r4 :: CV.bool rf :: CV.int r6 :: CV.dat rw :: CV.dat rh :: CV.dat fl :: CV.dat wa :: CV.dat wb :: CV.dat wc :: CV.int now :: CV.int clk :: CV.bool rt :: CV.int st :: [])) (fl.to Msg)[k]).cls)) (g := fun ds => .agg (svOf ds 0 (recvG (grOf (CV.int cn :: CV.int cr :: CV.int cp :: CV.int cdl :: CV.dat cps :: CV.dat css :: CV.bool cv :: CV.int p1 :: CV.int p2 :: CV.int p3 :: CV.int p4 :: CV.bool pf :: CV.int p6 :: CV.dat pw :: CV.dat ph :: CV.int q1 :: CV.int q2 :: CV.int q3 :: CV.int q4 :: CV.bool qf :: CV.int q6 :: CV.dat qw :: CV.dat qh :: CV.int r1 :: CV.int r2 :: CV.int r3 :: CV.int r4 :: CV.bool rf :: CV.int r6 :: CV.dat rw :: CV.dat rh :: CV.dat fl :: CV.dat wa :: CV.dat wb :: CV.dat wc :: CV.int now :: CV.int clk :: CV.bool rt :: CV.int st :: [])) (fl.to Msg)[k]).cls)) (hs1 0) (fun _ _ => rfl) (fun _ h => h)

theorem lawFlight : Law Try.prog 48 (((rdCells grK).two rdEv).sp spFlight) := by
  refine law_in _ (by kernel_rfl) fun H w ⟨⟨cs, hsh⟩, ek, en, ew⟩ hok => ?_
  obtain ⟨cn, cr, cp, cdl, cps, css, cv, p1, p2, p3, p4, pf, p6, pw, ph, q1, q2, q3, q4, qf, q6, qw, qh, r1, r2, r3, r4, rf, r6, rw, rh, fl, wa, wb, wc, now, clk, rt, st, rfl⟩ := gr_shape hsh
  intro hp
  obtain ⟨h1, ⟨h2, h3⟩, h5⟩ := hp _ (List.mem_singleton.2 rfl)
  exact flight_ent h2 h3 h1 h5
end Go.Proofs.Ytoechplbhbalaaa
end
section
/- Layer 21: the contracts that step leans on. -/
open Go Go.Proofs Sx
namespace Go.Proofs.Ytoechplbhbalaaa
noncomputable def ctS : Ctrs := (48, ctrOf (((rdCells grK).two rdEv).sp spFlight)) :: ctR
theorem ctSOk : Ctrs.Ok Try.prog ctS := by
  intro x hx
  rcases List.mem_cons.1 hx with rfl | hx
  · exact ctrOf_ok lawFlight
  · exact ctROk _ hx
end Go.Proofs.Ytoechplbhbalaaa
end
section
/- Layer 21: step, walked. -/
open Go Go.Proofs Sx
namespace Go.Proofs.Ytoechplbhbalaaa
set_option maxRecDepth 100000
set_option maxHeartbeats 0
section
variable (cn cr cp cdl : Int) (cps css : D) (cv : Bool) (p1 p2 p3 p4 : Int) (pf : Bool) (p6 : Int) (pw ph : D) (q1 q2 q3 q4 : Int) (qf : Bool) (q6 : Int) (qw qh : D) (r1 r2 r3 r4 : Int) (rf : Bool) (r6 : Int) (rw rh : D) (fl wa wb wc : D) (now clk : Int) (rt : Bool) (st : Int) (ek en ew : Int)
theorem step_in : goS Try.prog ctS (fun _ => false) [(45, 15)] 900 (entry Try.prog 45 [.agg [.int .i64 cn, .int .i64 cr, .int .i64 cp, .int .i64 cdl, .dat cps, .dat css, .bool cv, .int .i64 p1, .int .i64 p2, .int .i64 p3, .int .i64 p4, .bool pf, .int .i64 p6, .dat pw, .dat ph, .int .i64 q1, .int .i64 q2, .int .i64 q3, .int .i64 q4, .bool qf, .int .i64 q6, .dat qw, .dat qh, .int .i64 r1, .int .i64 r2, .int .i64 r3, .int .i64 r4, .bool rf, .int .i64 r6, .dat rw, .dat rh, .dat fl, .dat wa, .dat wb, .dat wc, .int .i64 now, .int .i64 clk, .bool rt, .int .i64 st], .agg [.int .u8 ek, .int .u8 en, .int .u8 ew]]) =
 Tree.need ((3 : Int) ≠ 0)
 (.leaf
 (Conf.mk
 (SFrm.mk 45 none none [Item.code (cAt Try.prog 45 [1, 1, 0]), Item.code (cAt Try.prog 45 [1, 1, 1])]
 (mkJ 0
 [(2, .ptr 0 0), (3, .ptr 1 0), (4, .ptr 2 0),
 (5, .int .i64 (Int.tmod (IntKind.wrap .i64 en) 3))]
 0 108))
 []
 [(0,
 OBlk.cells 97
 [.int .i64 cn, .int .i64 cr, .int .i64 cp, .int .i64 cdl, .dat cps,
 .dat css, .bool cv, .int .i64 p1, .int .i64 p2, .int .i64 p3,
 .int .i64 p4, .bool pf, .int .i64 p6, .dat pw, .dat ph, .int .i64 q1,
 .int .i64 q2, .int .i64 q3, .int .i64 q4, .bool qf, .int .i64 q6,
 .dat qw, .dat qh, .int .i64 r1, .int .i64 r2, .int .i64 r3,
 .int .i64 r4, .bool rf, .int .i64 r6, .dat rw, .dat rh, .dat fl, .dat wa,
 .dat wb, .dat wc, .int .i64 now, .int .i64 clk, .bool rt, .int .i64 st]),
 (1, OBlk.cells 101 [.int .u8 ek, .int .u8 en, .int .u8 ew]),
 (2,
 OBlk.cells 97
 [.int .i64 0, .int .i64 0, .int .i64 0, .int .i64 0, .nils, .nils,
 .lb false, .int .i64 0, .int .i64 0, .int .i64 0, .int .i64 0,
 .lb false, .int .i64 0, .nils, .nils, .int .i64 0, .int .i64 0,
 .int .i64 0, .int .i64 0, .lb false, .int .i64 0, .nils, .nils,
 .int .i64 0, .int .i64 0, .int .i64 0, .int .i64 0, .lb false,
 .int .i64 0, .nils, .nils, .nils, .nils, .nils, .nils, .int .i64 0,
 .int .i64 0, .lb false, .int .i64 0])])) := by kernel_rfl

theorem step0_go : 
 let z1 : List CV := [.int cn, .int cr, .int cp, .int cdl, .dat cps, .dat css, .bool cv, .int p1, .int p2, .int p3, .int p4, .bool pf, .int p6, .dat pw, .dat ph, .int q1, .int q2, .int q3, .int q4, .bool qf, .int q6, .dat qw, .dat qh, .int r1, .int r2, .int r3, .int r4, .bool rf, .int r6, .dat rw, .dat rh, .dat fl, .dat wa, .dat wb, .dat wc, .int now, .int (IntKind.wrap .i64 (clk + 1)), .bool rt, .int st]
 let z2 := (Prod.fst (issueMb (MbD.mb (MbD.mk p1 p2 p3 p4 pf p6 pw ph))))
 let z3 := (Gr.node (durG (grOf z1) (Fin.ofNat 3 0) ew) (Fin.ofNat 3 2))
 let z4 := (Gr.node (durG (grOf z1) (Fin.ofNat 3 0) ew) (Fin.ofNat 3 1))
 let z5 := (Gr.node (durG (grOf z1) (Fin.ofNat 3 0) ew) (Fin.ofNat 3 0))
 let z6 := (Prod.fst (startCo (CoD.co (CoD.mk cn cr cp cdl cps css cv)) now 20))
 let z7 := (Prod.snd (startCo (CoD.co (CoD.mk cn cr cp cdl cps css cv)) now 20))
 exec Try.prog ctS 900 (stepL cn cr cp cdl cps css cv p1 p2 p3 p4 pf p6 pw ph q1 q2 q3 q4 qf q6 qw qh r1 r2 r3 r4 rf r6 rw rh fl wa wb wc now clk rt st ek en ew 0) =
 Tree.need ((7 : Int) ≠ 0) (.br (decide (Int.tmod ek 7 = 0)) (.need ((0 : Int) ≤ 0 ∧ 0 < (↑3 : Int)) (.need (MbD.Right (MbD.mk p1 p2 p3 p4 pf p6 pw ph)) (.all fun hs => .need ((0 : Int) ≤ 0 ∧ 0 < (↑3 : Int))
 (.br rt (.need ((0 : Int) ≤ 0 ∧ 0 < (↑3 : Int)) (.all fun hs_1 => .need ((0 : Int) ≤ 0 ∧ 0 < (↑3 : Int)) (.need (D.sz (D.slc (D.hd (hs_1 1 0)) 4 []) = 4 ∧ D.Fits wa 4 ∧ (D.len (D.slc (D.hd (hs_1 1 0)) 4 []) + D.len wa) * 32 ≤ 140737488355328 ∧ D.len
 (D.slc (D.hd (hs_1 1 0)) 4 []) + D.len wa ≤ 9223372036854775807) (.need (D.sz (D.slc (D.hd (hs_1 6 0)) 4 (List.append (D.rows (D.slc (D.hd (hs_1 1 0)) 4 [])) (D.rows wa))) = 4 ∧ D.Fits (D.slc (D.hd (hs_1 10 0)) 4 [[D.int .i64
 (IntKind.wrap .i64 (clk + 1)), D.int .i64 0, D.int .i64 0, D.int .i64 0]]) 4 ∧ (D.len (D.slc (D.hd (hs_1 6 0)) 4 (List.append (D.rows (D.slc (D.hd (hs_1 1 0)) 4 [])) (D.rows wa))) + D.len (D.slc (D.hd
 (hs_1 10 0)) 4 [[D.int .i64 (IntKind.wrap .i64 (clk + 1)), D.int .i64 0, D.int .i64 0, D.int .i64 0]])) * 32 ≤ 140737488355328 ∧ D.len (D.slc (D.hd (hs_1 6 0)) 4 (List.append (D.rows (D.slc (D.hd (hs_1 1 0)) 4 []))
 (D.rows wa))) + D.len (D.slc (D.hd (hs_1 10 0)) 4 [[D.int .i64 (IntKind.wrap .i64 (clk + 1)), D.int .i64 0, D.int .i64 0, D.int .i64 0]]) ≤ 9223372036854775807) (.need ((0 : Int) ≤ 0 ∧ 0 < (↑3 : Int))
 (.ret (.agg [.int .i64 cn, .int .i64 cr, .int .i64 cp, .int .i64 cdl, .dat cps, .dat css, .bool cv, .int .i64 (Mb.round z2), .int .i64 (Mb.position z2), .int .i64 (Mb.thawed z2), .int .i64 (Mb.issued z2), .bool
 (Mb.frozen z2), .int .i64 (Mb.upto z2), .dat (D.like (hs 0 0) (Mb.waiting z2)), .dat (D.like (hs 0 1) (Mb.held z2)), .int .i64 q1, .int .i64 q2, .int .i64 q3, .int .i64 q4, .bool qf, .int .i64 q6, .dat qw, .dat qh, .int .i64 r1, .int .i64 r2, .int .i64 r3, .int .i64 r4, .bool rf, .int .i64 r6, .dat rw, .dat rh, .dat fl, .dat
 (D.slc (D.hd (hs_1 11 0)) 4 (List.append (D.rows (D.slc (D.hd (hs_1 6 0)) 4 (List.append (D.rows (D.slc (D.hd (hs_1 1 0)) 4 [])) (D.rows wa)))) (D.rows (D.slc (D.hd (hs_1 10 0)) 4 [[D.int .i64 (IntKind.wrap .i64
 (clk + 1)), D.int .i64 0, D.int .i64 0, D.int .i64 0]])))), .dat wb, .dat wc, .int .i64 now, .int .i64 (IntKind.wrap .i64 (clk + 1)), .bool (decide (Prod.snd (issueMb (MbD.mb (MbD.mk p1 p2 p3 p4 pf p6 pw ph))) =
 (↑(D.len wa) : Int))), .int .i64 st]))))))) (.all fun hs_1 => .need ((0 : Int) ≤ 0 ∧ 0 < (↑3 : Int)) (.need (D.sz (D.slc (D.hd (hs_1 1 0)) 4 []) = 4 ∧ D.Fits wa 4 ∧ (D.len (D.slc (D.hd (hs_1 1 0)) 4 []) + D.len wa) * 32 ≤ 140737488355328 ∧ D.len
 (D.slc (D.hd (hs_1 1 0)) 4 []) + D.len wa ≤ 9223372036854775807) (.need (D.sz (D.slc (D.hd (hs_1 6 0)) 4 (List.append (D.rows (D.slc (D.hd (hs_1 1 0)) 4 [])) (D.rows wa))) = 4 ∧ D.Fits (D.slc (D.hd (hs_1 10 0)) 4 [[D.int .i64
 (IntKind.wrap .i64 (clk + 1)), D.int .i64 0, D.int .i64 0, D.int .i64 0]]) 4 ∧ (D.len (D.slc (D.hd (hs_1 6 0)) 4 (List.append (D.rows (D.slc (D.hd (hs_1 1 0)) 4 [])) (D.rows wa))) + D.len (D.slc (D.hd
 (hs_1 10 0)) 4 [[D.int .i64 (IntKind.wrap .i64 (clk + 1)), D.int .i64 0, D.int .i64 0, D.int .i64 0]])) * 32 ≤ 140737488355328 ∧ D.len (D.slc (D.hd (hs_1 6 0)) 4 (List.append (D.rows (D.slc (D.hd (hs_1 1 0)) 4 []))
 (D.rows wa))) + D.len (D.slc (D.hd (hs_1 10 0)) 4 [[D.int .i64 (IntKind.wrap .i64 (clk + 1)), D.int .i64 0, D.int .i64 0, D.int .i64 0]]) ≤ 9223372036854775807) (.need ((0 : Int) ≤ 0 ∧ 0 < (↑3 : Int))
 (.ret (.agg [.int .i64 cn, .int .i64 cr, .int .i64 cp, .int .i64 cdl, .dat cps, .dat css, .bool cv, .int .i64 (Mb.round z2), .int .i64 (Mb.position z2), .int .i64 (Mb.thawed z2), .int .i64 (Mb.issued z2), .bool
 (Mb.frozen z2), .int .i64 (Mb.upto z2), .dat (D.like (hs 0 0) (Mb.waiting z2)), .dat (D.like (hs 0 1) (Mb.held z2)), .int .i64 q1, .int .i64 q2, .int .i64 q3, .int .i64 q4, .bool qf, .int .i64 q6, .dat qw, .dat qh, .int .i64 r1, .int .i64 r2, .int .i64 r3, .int .i64 r4, .bool rf, .int .i64 r6, .dat rw, .dat rh, .dat fl, .dat
 (D.slc (D.hd (hs_1 11 0)) 4 (List.append (D.rows (D.slc (D.hd (hs_1 6 0)) 4 (List.append (D.rows (D.slc (D.hd (hs_1 1 0)) 4 [])) (D.rows wa)))) (D.rows (D.slc (D.hd (hs_1 10 0)) 4 [[D.int .i64 (IntKind.wrap .i64
 (clk + 1)), D.int .i64 0, D.int .i64 0, D.int .i64 0]])))), .dat wb, .dat wc, .int .i64 now, .int .i64 (IntKind.wrap .i64 (clk + 1)), .lb false, .int .i64 st])))))))))) (.br (decide (Int.tmod ek 7 = 1))
 (.need (GrRight z1 ∧ U8 ew ∧ Gr.right (durG (grOf z1) (Fin.ofNat 3 0) ew) = true) (.all fun hs => .ret (.agg [.int .i64 (Co.nodes (Gr.c (durG (grOf z1) (Fin.ofNat 3 0) ew))), .int .i64 (Co.round (Gr.c
 (durG (grOf z1) (Fin.ofNat 3 0) ew))), .int .i64 (Co.phase (Gr.c (durG (grOf z1) (Fin.ofNat 3 0) ew))), .int .i64 (Co.deadline (Gr.c (durG (grOf z1) (Fin.ofNat 3 0) ew))), .dat (D.like (hs 0 0) (Co.positions
 (Gr.c (durG (grOf z1) (Fin.ofNat 3 0) ew)))), .dat (D.like (hs 0 1) (Co.seen (Gr.c (durG (grOf z1) (Fin.ofNat 3 0) ew)))), .bool (Co.valid (Gr.c (durG (grOf z1) (Fin.ofNat 3 0) ew))), .int .i64 (Mb.round z5), .int .i64
 (Mb.position z5), .int .i64 (Mb.thawed z5), .int .i64 (Mb.issued z5), .bool (Mb.frozen z5), .int .i64 (Mb.upto z5), .dat (D.like (hs 0 2) (Mb.waiting z5)), .dat (D.like (hs 0 3) (Mb.held z5)), .int .i64
 (Mb.round z4), .int .i64 (Mb.position z4), .int .i64 (Mb.thawed z4), .int .i64 (Mb.issued z4), .bool (Mb.frozen z4), .int .i64 (Mb.upto z4), .dat (D.like (hs 0 4) (Mb.waiting z4)), .dat (D.like (hs 0 5)
 (Mb.held z4)), .int .i64 (Mb.round z3), .int .i64 (Mb.position z3), .int .i64 (Mb.thawed z3), .int .i64 (Mb.issued z3), .bool (Mb.frozen z3), .int .i64 (Mb.upto z3), .dat (D.like (hs 0 6) (Mb.waiting z3)), .dat
 (D.like (hs 0 7) (Mb.held z3)), .dat (D.like (hs 0 8) (Gr.flight (durG (grOf z1) (Fin.ofNat 3 0) ew))), .dat (D.like (hs 0 9) (Gr.wr (durG (grOf z1) (Fin.ofNat 3 0) ew) (Fin.ofNat 3 0))), .dat (D.like
 (hs 0 10) (Gr.wr (durG (grOf z1) (Fin.ofNat 3 0) ew) (Fin.ofNat 3 1))), .dat (D.like (hs 0 11) (Gr.wr (durG (grOf z1) (Fin.ofNat 3 0) ew) (Fin.ofNat 3 2))), .int .i64 (Gr.now (durG (grOf z1) (Fin.ofNat 3 0) ew)), .int .i64
 (Gr.clock (durG (grOf z1) (Fin.ofNat 3 0) ew)), .bool (Gr.right (durG (grOf z1) (Fin.ofNat 3 0) ew)), .int .i64 (Gr.started (durG (grOf z1) (Fin.ofNat 3 0) ew))]))) (.br (decide (Int.tmod ek 7 = 2)) (.need
 (D.Is Int cps ∧ D.Is Bool css) (.all fun hs => .br (Prod.snd z7 != 0) (.br rt (.ret (.agg [.int .i64 cn, .int .i64 cr, .int .i64 cp, .int .i64 cdl, .dat cps, .dat css, .bool cv, .int .i64 p1, .int .i64 p2, .int .i64 p3, .int .i64 p4, .bool pf, .int .i64 p6, .dat pw, .dat ph, .int .i64 q1, .int .i64 q2, .int .i64 q3, .int .i64 q4, .bool qf, .int .i64 q6, .dat qw, .dat qh, .int .i64 r1, .int .i64 r2, .int .i64 r3, .int .i64 r4, .bool rf, .int .i64 r6, .dat rw, .dat rh, .dat fl, .dat wa, .dat wb, .dat wc, .int .i64 now, .int .i64
 (IntKind.wrap .i64 (clk + 1)), .bool (decide (Prod.snd z7 = 26)), .int .i64 st])) (.ret (.agg [.int .i64 cn, .int .i64 cr, .int .i64 cp, .int .i64 cdl, .dat cps, .dat css, .bool cv, .int .i64 p1, .int .i64 p2, .int .i64 p3, .int .i64 p4, .bool pf, .int .i64 p6, .dat pw, .dat ph, .int .i64 q1, .int .i64 q2, .int .i64 q3, .int .i64 q4, .bool qf, .int .i64 q6, .dat qw, .dat qh, .int .i64 r1, .int .i64 r2, .int .i64 r3, .int .i64 r4, .bool rf, .int .i64 r6, .dat rw, .dat rh, .dat fl, .dat wa, .dat wb, .dat wc, .int .i64 now, .int .i64
 (IntKind.wrap .i64 (clk + 1)), .lb false, .int .i64 st]))) (.need (D.Is Msg fl ∧ D.len fl ≤ 1048576 ∧ D.Is Msg (D.like (hs 0 2) (Prod.fst z7)) ∧ D.len (D.like (hs 0 2) (Prod.fst z7)) ≤ 1048576) (.all fun hs_1 => .ret
 (.agg [.int .i64 (Co.nodes z6), .int .i64 (Co.round z6), .int .i64 (Co.phase z6), .int .i64 (Co.deadline z6), .dat (D.like (hs 0 0) (Co.positions z6)), .dat (D.like (hs 0 1) (Co.seen z6)), .bool (Co.valid z6), .int .i64 p1, .int .i64 p2, .int .i64 p3, .int .i64 p4, .bool pf, .int .i64 p6, .dat pw, .dat ph, .int .i64 q1, .int .i64 q2, .int .i64 q3, .int .i64 q4, .bool qf, .int .i64 q6, .dat qw, .dat qh, .int .i64 r1, .int .i64 r2, .int .i64 r3, .int .i64 r4, .bool rf, .int .i64 r6, .dat rw, .dat rh, .dat
 (D.like (hs_1 0 0) (List.append (D.to Msg fl) (D.to Msg (D.like (hs 0 2) (Prod.fst z7))))), .dat wa, .dat wb, .dat wc, .int .i64 now, .int .i64 (IntKind.wrap .i64 (clk + 1)), .bool rt, .int .i64 (IntKind.wrap .i64
 (st + 1))]))))) (.br (decide (Int.tmod ek 7 = 6)) (.need (GrRight z1 ∧ ((U8 en ∧ U8 ew) ∧ List.length (D.to Msg fl) ≤ 999000) ∧ Gr.right (tickG (grOf z1) en ew) = true) (.all fun hs => .ret (.agg [.int .i64
 (Co.nodes (Gr.c (tickG (grOf z1) en ew))), .int .i64 (Co.round (Gr.c (tickG (grOf z1) en ew))), .int .i64 (Co.phase (Gr.c (tickG (grOf z1) en ew))), .int .i64 (Co.deadline (Gr.c (tickG (grOf z1) en ew))), .dat
 (D.like (hs 0 0) (Co.positions (Gr.c (tickG (grOf z1) en ew)))), .dat (D.like (hs 0 1) (Co.seen (Gr.c (tickG (grOf z1) en ew)))), .bool (Co.valid (Gr.c (tickG (grOf z1) en ew))), .int .i64 (Mb.round (Gr.node
 (tickG (grOf z1) en ew) (Fin.ofNat 3 0))), .int .i64 (Mb.position (Gr.node (tickG (grOf z1) en ew) (Fin.ofNat 3 0))), .int .i64 (Mb.thawed (Gr.node (tickG (grOf z1) en ew) (Fin.ofNat 3 0))), .int .i64
 (Mb.issued (Gr.node (tickG (grOf z1) en ew) (Fin.ofNat 3 0))), .bool (Mb.frozen (Gr.node (tickG (grOf z1) en ew) (Fin.ofNat 3 0))), .int .i64 (Mb.upto (Gr.node (tickG (grOf z1) en ew) (Fin.ofNat 3 0))), .dat
 (D.like (hs 0 2) (Mb.waiting (Gr.node (tickG (grOf z1) en ew) (Fin.ofNat 3 0)))), .dat (D.like (hs 0 3) (Mb.held (Gr.node (tickG (grOf z1) en ew) (Fin.ofNat 3 0)))), .int .i64 (Mb.round (Gr.node (tickG
 (grOf z1) en ew) (Fin.ofNat 3 1))), .int .i64 (Mb.position (Gr.node (tickG (grOf z1) en ew) (Fin.ofNat 3 1))), .int .i64 (Mb.thawed (Gr.node (tickG (grOf z1) en ew) (Fin.ofNat 3 1))), .int .i64 (Mb.issued
 (Gr.node (tickG (grOf z1) en ew) (Fin.ofNat 3 1))), .bool (Mb.frozen (Gr.node (tickG (grOf z1) en ew) (Fin.ofNat 3 1))), .int .i64 (Mb.upto (Gr.node (tickG (grOf z1) en ew) (Fin.ofNat 3 1))), .dat (D.like
 (hs 0 4) (Mb.waiting (Gr.node (tickG (grOf z1) en ew) (Fin.ofNat 3 1)))), .dat (D.like (hs 0 5) (Mb.held (Gr.node (tickG (grOf z1) en ew) (Fin.ofNat 3 1)))), .int .i64 (Mb.round (Gr.node (tickG (grOf z1) en ew)
 (Fin.ofNat 3 2))), .int .i64 (Mb.position (Gr.node (tickG (grOf z1) en ew) (Fin.ofNat 3 2))), .int .i64 (Mb.thawed (Gr.node (tickG (grOf z1) en ew) (Fin.ofNat 3 2))), .int .i64 (Mb.issued (Gr.node (tickG
 (grOf z1) en ew) (Fin.ofNat 3 2))), .bool (Mb.frozen (Gr.node (tickG (grOf z1) en ew) (Fin.ofNat 3 2))), .int .i64 (Mb.upto (Gr.node (tickG (grOf z1) en ew) (Fin.ofNat 3 2))), .dat (D.like (hs 0 6) (Mb.waiting
 (Gr.node (tickG (grOf z1) en ew) (Fin.ofNat 3 2)))), .dat (D.like (hs 0 7) (Mb.held (Gr.node (tickG (grOf z1) en ew) (Fin.ofNat 3 2)))), .dat (D.like (hs 0 8) (Gr.flight (tickG (grOf z1) en ew))), .dat
 (D.like (hs 0 9) (Gr.wr (tickG (grOf z1) en ew) (Fin.ofNat 3 0))), .dat (D.like (hs 0 10) (Gr.wr (tickG (grOf z1) en ew) (Fin.ofNat 3 1))), .dat (D.like (hs 0 11) (Gr.wr (tickG (grOf z1) en ew) (Fin.ofNat 3 2))), .int .i64
 (Gr.now (tickG (grOf z1) en ew)), .int .i64 (Gr.clock (tickG (grOf z1) en ew)), .bool (Gr.right (tickG (grOf z1) en ew)), .int .i64 (Gr.started (tickG (grOf z1) en ew))]))) (.need (GrRight z1 ∧ (U8 ek ∧ U8 ew) ∧ Gr.right
 (flightG (grOf z1) ek ew) = true) (.all fun hs => .ret (.agg [.int .i64 (Co.nodes (Gr.c (flightG (grOf z1) ek ew))), .int .i64 (Co.round (Gr.c (flightG (grOf z1) ek ew))), .int .i64 (Co.phase (Gr.c (flightG
 (grOf z1) ek ew))), .int .i64 (Co.deadline (Gr.c (flightG (grOf z1) ek ew))), .dat (D.like (hs 0 0) (Co.positions (Gr.c (flightG (grOf z1) ek ew)))), .dat (D.like (hs 0 1) (Co.seen (Gr.c (flightG (grOf z1) ek ew)))), .bool
 (Co.valid (Gr.c (flightG (grOf z1) ek ew))), .int .i64 (Mb.round (Gr.node (flightG (grOf z1) ek ew) (Fin.ofNat 3 0))), .int .i64 (Mb.position (Gr.node (flightG (grOf z1) ek ew) (Fin.ofNat 3 0))), .int .i64
 (Mb.thawed (Gr.node (flightG (grOf z1) ek ew) (Fin.ofNat 3 0))), .int .i64 (Mb.issued (Gr.node (flightG (grOf z1) ek ew) (Fin.ofNat 3 0))), .bool (Mb.frozen (Gr.node (flightG (grOf z1) ek ew) (Fin.ofNat 3 0))), .int .i64
 (Mb.upto (Gr.node (flightG (grOf z1) ek ew) (Fin.ofNat 3 0))), .dat (D.like (hs 0 2) (Mb.waiting (Gr.node (flightG (grOf z1) ek ew) (Fin.ofNat 3 0)))), .dat (D.like (hs 0 3) (Mb.held (Gr.node (flightG
 (grOf z1) ek ew) (Fin.ofNat 3 0)))), .int .i64 (Mb.round (Gr.node (flightG (grOf z1) ek ew) (Fin.ofNat 3 1))), .int .i64 (Mb.position (Gr.node (flightG (grOf z1) ek ew) (Fin.ofNat 3 1))), .int .i64 (Mb.thawed
 (Gr.node (flightG (grOf z1) ek ew) (Fin.ofNat 3 1))), .int .i64 (Mb.issued (Gr.node (flightG (grOf z1) ek ew) (Fin.ofNat 3 1))), .bool (Mb.frozen (Gr.node (flightG (grOf z1) ek ew) (Fin.ofNat 3 1))), .int .i64
 (Mb.upto (Gr.node (flightG (grOf z1) ek ew) (Fin.ofNat 3 1))), .dat (D.like (hs 0 4) (Mb.waiting (Gr.node (flightG (grOf z1) ek ew) (Fin.ofNat 3 1)))), .dat (D.like (hs 0 5) (Mb.held (Gr.node (flightG
 (grOf z1) ek ew) (Fin.ofNat 3 1)))), .int .i64 (Mb.round (Gr.node (flightG (grOf z1) ek ew) (Fin.ofNat 3 2))), .int .i64 (Mb.position (Gr.node (flightG (grOf z1) ek ew) (Fin.ofNat 3 2))), .int .i64 (Mb.thawed
 (Gr.node (flightG (grOf z1) ek ew) (Fin.ofNat 3 2))), .int .i64 (Mb.issued (Gr.node (flightG (grOf z1) ek ew) (Fin.ofNat 3 2))), .bool (Mb.frozen (Gr.node (flightG (grOf z1) ek ew) (Fin.ofNat 3 2))), .int .i64
 (Mb.upto (Gr.node (flightG (grOf z1) ek ew) (Fin.ofNat 3 2))), .dat (D.like (hs 0 6) (Mb.waiting (Gr.node (flightG (grOf z1) ek ew) (Fin.ofNat 3 2)))), .dat (D.like (hs 0 7) (Mb.held (Gr.node (flightG
 (grOf z1) ek ew) (Fin.ofNat 3 2)))), .dat (D.like (hs 0 8) (Gr.flight (flightG (grOf z1) ek ew))), .dat (D.like (hs 0 9) (Gr.wr (flightG (grOf z1) ek ew) (Fin.ofNat 3 0))), .dat (D.like (hs 0 10) (Gr.wr
 (flightG (grOf z1) ek ew) (Fin.ofNat 3 1))), .dat (D.like (hs 0 11) (Gr.wr (flightG (grOf z1) ek ew) (Fin.ofNat 3 2))), .int .i64 (Gr.now (flightG (grOf z1) ek ew)), .int .i64 (Gr.clock (flightG (grOf z1) ek ew)), .bool
 (Gr.right (flightG (grOf z1) ek ew)), .int .i64 (Gr.started (flightG (grOf z1) ek ew))]))))))) := by
 intros; kernel_rfl

theorem step1_go : 
 let z1 : List CV := [.int cn, .int cr, .int cp, .int cdl, .dat cps, .dat css, .bool cv, .int p1, .int p2, .int p3, .int p4, .bool pf, .int p6, .dat pw, .dat ph, .int q1, .int q2, .int q3, .int q4, .bool qf, .int q6, .dat qw, .dat qh, .int r1, .int r2, .int r3, .int r4, .bool rf, .int r6, .dat rw, .dat rh, .dat fl, .dat wa, .dat wb, .dat wc, .int now, .int (IntKind.wrap .i64 (clk + 1)), .bool rt, .int st]
 let z2 := (Prod.fst (issueMb (MbD.mb (MbD.mk q1 q2 q3 q4 qf q6 qw qh))))
 let z3 := (Gr.node (durG (grOf z1) (Fin.ofNat 3 1) ew) (Fin.ofNat 3 2))
 let z4 := (Gr.node (durG (grOf z1) (Fin.ofNat 3 1) ew) (Fin.ofNat 3 1))
 let z5 := (Gr.node (durG (grOf z1) (Fin.ofNat 3 1) ew) (Fin.ofNat 3 0))
 let z6 := (Prod.fst (startCo (CoD.co (CoD.mk cn cr cp cdl cps css cv)) now 20))
 let z7 := (Prod.snd (startCo (CoD.co (CoD.mk cn cr cp cdl cps css cv)) now 20))
 exec Try.prog ctS 900 (stepL cn cr cp cdl cps css cv p1 p2 p3 p4 pf p6 pw ph q1 q2 q3 q4 qf q6 qw qh r1 r2 r3 r4 rf r6 rw rh fl wa wb wc now clk rt st ek en ew 1) =
 Tree.need ((7 : Int) ≠ 0) (.br (decide (Int.tmod ek 7 = 0)) (.need ((0 : Int) ≤ 1 ∧ 1 < (↑3 : Int)) (.need (MbD.Right (MbD.mk q1 q2 q3 q4 qf q6 qw qh)) (.all fun hs => .need ((0 : Int) ≤ 1 ∧ 1 < (↑3 : Int))
 (.br rt (.need ((0 : Int) ≤ 1 ∧ 1 < (↑3 : Int)) (.all fun hs_1 => .need ((0 : Int) ≤ 1 ∧ 1 < (↑3 : Int)) (.need (D.sz (D.slc (D.hd (hs_1 1 0)) 4 []) = 4 ∧ D.Fits wb 4 ∧ (D.len (D.slc (D.hd (hs_1 1 0)) 4 []) + D.len wb) * 32 ≤ 140737488355328 ∧ D.len
 (D.slc (D.hd (hs_1 1 0)) 4 []) + D.len wb ≤ 9223372036854775807) (.need (D.sz (D.slc (D.hd (hs_1 6 0)) 4 (List.append (D.rows (D.slc (D.hd (hs_1 1 0)) 4 [])) (D.rows wb))) = 4 ∧ D.Fits (D.slc (D.hd (hs_1 10 0)) 4 [[D.int .i64
 (IntKind.wrap .i64 (clk + 1)), D.int .i64 0, D.int .i64 0, D.int .i64 0]]) 4 ∧ (D.len (D.slc (D.hd (hs_1 6 0)) 4 (List.append (D.rows (D.slc (D.hd (hs_1 1 0)) 4 [])) (D.rows wb))) + D.len (D.slc (D.hd
 (hs_1 10 0)) 4 [[D.int .i64 (IntKind.wrap .i64 (clk + 1)), D.int .i64 0, D.int .i64 0, D.int .i64 0]])) * 32 ≤ 140737488355328 ∧ D.len (D.slc (D.hd (hs_1 6 0)) 4 (List.append (D.rows (D.slc (D.hd (hs_1 1 0)) 4 []))
 (D.rows wb))) + D.len (D.slc (D.hd (hs_1 10 0)) 4 [[D.int .i64 (IntKind.wrap .i64 (clk + 1)), D.int .i64 0, D.int .i64 0, D.int .i64 0]]) ≤ 9223372036854775807) (.need ((0 : Int) ≤ 1 ∧ 1 < (↑3 : Int))
 (.ret (.agg [.int .i64 cn, .int .i64 cr, .int .i64 cp, .int .i64 cdl, .dat cps, .dat css, .bool cv, .int .i64 p1, .int .i64 p2, .int .i64 p3, .int .i64 p4, .bool pf, .int .i64 p6, .dat pw, .dat ph, .int .i64
 (Mb.round z2), .int .i64 (Mb.position z2), .int .i64 (Mb.thawed z2), .int .i64 (Mb.issued z2), .bool (Mb.frozen z2), .int .i64 (Mb.upto z2), .dat (D.like (hs 0 0) (Mb.waiting z2)), .dat (D.like (hs 0 1)
 (Mb.held z2)), .int .i64 r1, .int .i64 r2, .int .i64 r3, .int .i64 r4, .bool rf, .int .i64 r6, .dat rw, .dat rh, .dat fl, .dat wa, .dat (D.slc (D.hd (hs_1 11 0)) 4 (List.append (D.rows (D.slc (D.hd (hs_1 6 0)) 4
 (List.append (D.rows (D.slc (D.hd (hs_1 1 0)) 4 [])) (D.rows wb)))) (D.rows (D.slc (D.hd (hs_1 10 0)) 4 [[D.int .i64 (IntKind.wrap .i64 (clk + 1)), D.int .i64 0, D.int .i64 0, D.int .i64 0]])))), .dat wc, .int .i64 now, .int .i64
 (IntKind.wrap .i64 (clk + 1)), .bool (decide (Prod.snd (issueMb (MbD.mb (MbD.mk q1 q2 q3 q4 qf q6 qw qh))) = (↑(D.len wb) : Int))), .int .i64 st]))))))) (.all fun hs_1 => .need ((0 : Int) ≤ 1 ∧ 1 < (↑3 : Int))
 (.need (D.sz (D.slc (D.hd (hs_1 1 0)) 4 []) = 4 ∧ D.Fits wb 4 ∧ (D.len (D.slc (D.hd (hs_1 1 0)) 4 []) + D.len wb) * 32 ≤ 140737488355328 ∧ D.len (D.slc (D.hd (hs_1 1 0)) 4 []) + D.len wb ≤ 9223372036854775807)
 (.need (D.sz (D.slc (D.hd (hs_1 6 0)) 4 (List.append (D.rows (D.slc (D.hd (hs_1 1 0)) 4 [])) (D.rows wb))) = 4 ∧ D.Fits (D.slc (D.hd (hs_1 10 0)) 4 [[D.int .i64 (IntKind.wrap .i64 (clk + 1)), D.int .i64 0, D.int .i64 0, D.int .i64 0]]) 4 ∧
 (D.len (D.slc (D.hd (hs_1 6 0)) 4 (List.append (D.rows (D.slc (D.hd (hs_1 1 0)) 4 [])) (D.rows wb))) + D.len (D.slc (D.hd (hs_1 10 0)) 4 [[D.int .i64 (IntKind.wrap .i64 (clk + 1)), D.int .i64 0, D.int .i64 0, D.int .i64 0]])) * 32 ≤ 140737488355328 ∧ D.len
 (D.slc (D.hd (hs_1 6 0)) 4 (List.append (D.rows (D.slc (D.hd (hs_1 1 0)) 4 [])) (D.rows wb))) + D.len (D.slc (D.hd (hs_1 10 0)) 4 [[D.int .i64 (IntKind.wrap .i64 (clk + 1)), D.int .i64 0, D.int .i64 0, D.int .i64 0]]) ≤ 9223372036854775807)
 (.need ((0 : Int) ≤ 1 ∧ 1 < (↑3 : Int)) (.ret (.agg [.int .i64 cn, .int .i64 cr, .int .i64 cp, .int .i64 cdl, .dat cps, .dat css, .bool cv, .int .i64 p1, .int .i64 p2, .int .i64 p3, .int .i64 p4, .bool pf, .int .i64 p6, .dat pw, .dat ph, .int .i64
 (Mb.round z2), .int .i64 (Mb.position z2), .int .i64 (Mb.thawed z2), .int .i64 (Mb.issued z2), .bool (Mb.frozen z2), .int .i64 (Mb.upto z2), .dat (D.like (hs 0 0) (Mb.waiting z2)), .dat (D.like (hs 0 1)
 (Mb.held z2)), .int .i64 r1, .int .i64 r2, .int .i64 r3, .int .i64 r4, .bool rf, .int .i64 r6, .dat rw, .dat rh, .dat fl, .dat wa, .dat (D.slc (D.hd (hs_1 11 0)) 4 (List.append (D.rows (D.slc (D.hd (hs_1 6 0)) 4
 (List.append (D.rows (D.slc (D.hd (hs_1 1 0)) 4 [])) (D.rows wb)))) (D.rows (D.slc (D.hd (hs_1 10 0)) 4 [[D.int .i64 (IntKind.wrap .i64 (clk + 1)), D.int .i64 0, D.int .i64 0, D.int .i64 0]])))), .dat wc, .int .i64 now, .int .i64
 (IntKind.wrap .i64 (clk + 1)), .lb false, .int .i64 st])))))))))) (.br (decide (Int.tmod ek 7 = 1)) (.need (GrRight z1 ∧ U8 ew ∧ Gr.right (durG (grOf z1) (Fin.ofNat 3 1) ew) = true) (.all fun hs => .ret
 (.agg [.int .i64 (Co.nodes (Gr.c (durG (grOf z1) (Fin.ofNat 3 1) ew))), .int .i64 (Co.round (Gr.c (durG (grOf z1) (Fin.ofNat 3 1) ew))), .int .i64 (Co.phase (Gr.c (durG (grOf z1) (Fin.ofNat 3 1) ew))), .int .i64
 (Co.deadline (Gr.c (durG (grOf z1) (Fin.ofNat 3 1) ew))), .dat (D.like (hs 0 0) (Co.positions (Gr.c (durG (grOf z1) (Fin.ofNat 3 1) ew)))), .dat (D.like (hs 0 1) (Co.seen (Gr.c (durG (grOf z1) (Fin.ofNat 3 1) ew)))), .bool
 (Co.valid (Gr.c (durG (grOf z1) (Fin.ofNat 3 1) ew))), .int .i64 (Mb.round z5), .int .i64 (Mb.position z5), .int .i64 (Mb.thawed z5), .int .i64 (Mb.issued z5), .bool (Mb.frozen z5), .int .i64 (Mb.upto z5), .dat
 (D.like (hs 0 2) (Mb.waiting z5)), .dat (D.like (hs 0 3) (Mb.held z5)), .int .i64 (Mb.round z4), .int .i64 (Mb.position z4), .int .i64 (Mb.thawed z4), .int .i64 (Mb.issued z4), .bool (Mb.frozen z4), .int .i64
 (Mb.upto z4), .dat (D.like (hs 0 4) (Mb.waiting z4)), .dat (D.like (hs 0 5) (Mb.held z4)), .int .i64 (Mb.round z3), .int .i64 (Mb.position z3), .int .i64 (Mb.thawed z3), .int .i64 (Mb.issued z3), .bool
 (Mb.frozen z3), .int .i64 (Mb.upto z3), .dat (D.like (hs 0 6) (Mb.waiting z3)), .dat (D.like (hs 0 7) (Mb.held z3)), .dat (D.like (hs 0 8) (Gr.flight (durG (grOf z1) (Fin.ofNat 3 1) ew))), .dat (D.like
 (hs 0 9) (Gr.wr (durG (grOf z1) (Fin.ofNat 3 1) ew) (Fin.ofNat 3 0))), .dat (D.like (hs 0 10) (Gr.wr (durG (grOf z1) (Fin.ofNat 3 1) ew) (Fin.ofNat 3 1))), .dat (D.like (hs 0 11) (Gr.wr (durG (grOf z1)
 (Fin.ofNat 3 1) ew) (Fin.ofNat 3 2))), .int .i64 (Gr.now (durG (grOf z1) (Fin.ofNat 3 1) ew)), .int .i64 (Gr.clock (durG (grOf z1) (Fin.ofNat 3 1) ew)), .bool (Gr.right (durG (grOf z1) (Fin.ofNat 3 1) ew)), .int .i64
 (Gr.started (durG (grOf z1) (Fin.ofNat 3 1) ew))]))) (.br (decide (Int.tmod ek 7 = 2)) (.need (D.Is Int cps ∧ D.Is Bool css) (.all fun hs => .br (Prod.snd z7 != 0) (.br rt (.ret (.agg [.int .i64 cn, .int .i64 cr, .int .i64 cp, .int .i64 cdl, .dat cps, .dat css, .bool cv, .int .i64 p1, .int .i64 p2, .int .i64 p3, .int .i64 p4, .bool pf, .int .i64 p6, .dat pw, .dat ph, .int .i64 q1, .int .i64 q2, .int .i64 q3, .int .i64 q4, .bool qf, .int .i64 q6, .dat qw, .dat qh, .int .i64 r1, .int .i64 r2, .int .i64 r3, .int .i64 r4, .bool rf, .int .i64 r6, .dat rw, .dat rh, .dat fl, .dat wa, .dat wb, .dat wc, .int .i64 now, .int .i64
 (IntKind.wrap .i64 (clk + 1)), .bool (decide (Prod.snd z7 = 26)), .int .i64 st])) (.ret (.agg [.int .i64 cn, .int .i64 cr, .int .i64 cp, .int .i64 cdl, .dat cps, .dat css, .bool cv, .int .i64 p1, .int .i64 p2, .int .i64 p3, .int .i64 p4, .bool pf, .int .i64 p6, .dat pw, .dat ph, .int .i64 q1, .int .i64 q2, .int .i64 q3, .int .i64 q4, .bool qf, .int .i64 q6, .dat qw, .dat qh, .int .i64 r1, .int .i64 r2, .int .i64 r3, .int .i64 r4, .bool rf, .int .i64 r6, .dat rw, .dat rh, .dat fl, .dat wa, .dat wb, .dat wc, .int .i64 now, .int .i64
 (IntKind.wrap .i64 (clk + 1)), .lb false, .int .i64 st]))) (.need (D.Is Msg fl ∧ D.len fl ≤ 1048576 ∧ D.Is Msg (D.like (hs 0 2) (Prod.fst z7)) ∧ D.len (D.like (hs 0 2) (Prod.fst z7)) ≤ 1048576) (.all fun hs_1 => .ret
 (.agg [.int .i64 (Co.nodes z6), .int .i64 (Co.round z6), .int .i64 (Co.phase z6), .int .i64 (Co.deadline z6), .dat (D.like (hs 0 0) (Co.positions z6)), .dat (D.like (hs 0 1) (Co.seen z6)), .bool (Co.valid z6), .int .i64 p1, .int .i64 p2, .int .i64 p3, .int .i64 p4, .bool pf, .int .i64 p6, .dat pw, .dat ph, .int .i64 q1, .int .i64 q2, .int .i64 q3, .int .i64 q4, .bool qf, .int .i64 q6, .dat qw, .dat qh, .int .i64 r1, .int .i64 r2, .int .i64 r3, .int .i64 r4, .bool rf, .int .i64 r6, .dat rw, .dat rh, .dat
 (D.like (hs_1 0 0) (List.append (D.to Msg fl) (D.to Msg (D.like (hs 0 2) (Prod.fst z7))))), .dat wa, .dat wb, .dat wc, .int .i64 now, .int .i64 (IntKind.wrap .i64 (clk + 1)), .bool rt, .int .i64 (IntKind.wrap .i64
 (st + 1))]))))) (.br (decide (Int.tmod ek 7 = 6)) (.need (GrRight z1 ∧ ((U8 en ∧ U8 ew) ∧ List.length (D.to Msg fl) ≤ 999000) ∧ Gr.right (tickG (grOf z1) en ew) = true) (.all fun hs => .ret (.agg [.int .i64
 (Co.nodes (Gr.c (tickG (grOf z1) en ew))), .int .i64 (Co.round (Gr.c (tickG (grOf z1) en ew))), .int .i64 (Co.phase (Gr.c (tickG (grOf z1) en ew))), .int .i64 (Co.deadline (Gr.c (tickG (grOf z1) en ew))), .dat
 (D.like (hs 0 0) (Co.positions (Gr.c (tickG (grOf z1) en ew)))), .dat (D.like (hs 0 1) (Co.seen (Gr.c (tickG (grOf z1) en ew)))), .bool (Co.valid (Gr.c (tickG (grOf z1) en ew))), .int .i64 (Mb.round (Gr.node
 (tickG (grOf z1) en ew) (Fin.ofNat 3 0))), .int .i64 (Mb.position (Gr.node (tickG (grOf z1) en ew) (Fin.ofNat 3 0))), .int .i64 (Mb.thawed (Gr.node (tickG (grOf z1) en ew) (Fin.ofNat 3 0))), .int .i64
 (Mb.issued (Gr.node (tickG (grOf z1) en ew) (Fin.ofNat 3 0))), .bool (Mb.frozen (Gr.node (tickG (grOf z1) en ew) (Fin.ofNat 3 0))), .int .i64 (Mb.upto (Gr.node (tickG (grOf z1) en ew) (Fin.ofNat 3 0))), .dat
 (D.like (hs 0 2) (Mb.waiting (Gr.node (tickG (grOf z1) en ew) (Fin.ofNat 3 0)))), .dat (D.like (hs 0 3) (Mb.held (Gr.node (tickG (grOf z1) en ew) (Fin.ofNat 3 0)))), .int .i64 (Mb.round (Gr.node (tickG
 (grOf z1) en ew) (Fin.ofNat 3 1))), .int .i64 (Mb.position (Gr.node (tickG (grOf z1) en ew) (Fin.ofNat 3 1))), .int .i64 (Mb.thawed (Gr.node (tickG (grOf z1) en ew) (Fin.ofNat 3 1))), .int .i64 (Mb.issued
 (Gr.node (tickG (grOf z1) en ew) (Fin.ofNat 3 1))), .bool (Mb.frozen (Gr.node (tickG (grOf z1) en ew) (Fin.ofNat 3 1))), .int .i64 (Mb.upto (Gr.node (tickG (grOf z1) en ew) (Fin.ofNat 3 1))), .dat (D.like
 (hs 0 4) (Mb.waiting (Gr.node (tickG (grOf z1) en ew) (Fin.ofNat 3 1)))), .dat (D.like (hs 0 5) (Mb.held (Gr.node (tickG (grOf z1) en ew) (Fin.ofNat 3 1)))), .int .i64 (Mb.round (Gr.node (tickG (grOf z1) en ew)
 (Fin.ofNat 3 2))), .int .i64 (Mb.position (Gr.node (tickG (grOf z1) en ew) (Fin.ofNat 3 2))), .int .i64 (Mb.thawed (Gr.node (tickG (grOf z1) en ew) (Fin.ofNat 3 2))), .int .i64 (Mb.issued (Gr.node (tickG
 (grOf z1) en ew) (Fin.ofNat 3 2))), .bool (Mb.frozen (Gr.node (tickG (grOf z1) en ew) (Fin.ofNat 3 2))), .int .i64 (Mb.upto (Gr.node (tickG (grOf z1) en ew) (Fin.ofNat 3 2))), .dat (D.like (hs 0 6) (Mb.waiting
 (Gr.node (tickG (grOf z1) en ew) (Fin.ofNat 3 2)))), .dat (D.like (hs 0 7) (Mb.held (Gr.node (tickG (grOf z1) en ew) (Fin.ofNat 3 2)))), .dat (D.like (hs 0 8) (Gr.flight (tickG (grOf z1) en ew))), .dat
 (D.like (hs 0 9) (Gr.wr (tickG (grOf z1) en ew) (Fin.ofNat 3 0))), .dat (D.like (hs 0 10) (Gr.wr (tickG (grOf z1) en ew) (Fin.ofNat 3 1))), .dat (D.like (hs 0 11) (Gr.wr (tickG (grOf z1) en ew) (Fin.ofNat 3 2))), .int .i64
 (Gr.now (tickG (grOf z1) en ew)), .int .i64 (Gr.clock (tickG (grOf z1) en ew)), .bool (Gr.right (tickG (grOf z1) en ew)), .int .i64 (Gr.started (tickG (grOf z1) en ew))]))) (.need (GrRight z1 ∧ (U8 ek ∧ U8 ew) ∧ Gr.right
 (flightG (grOf z1) ek ew) = true) (.all fun hs => .ret (.agg [.int .i64 (Co.nodes (Gr.c (flightG (grOf z1) ek ew))), .int .i64 (Co.round (Gr.c (flightG (grOf z1) ek ew))), .int .i64 (Co.phase (Gr.c (flightG
 (grOf z1) ek ew))), .int .i64 (Co.deadline (Gr.c (flightG (grOf z1) ek ew))), .dat (D.like (hs 0 0) (Co.positions (Gr.c (flightG (grOf z1) ek ew)))), .dat (D.like (hs 0 1) (Co.seen (Gr.c (flightG (grOf z1) ek ew)))), .bool
 (Co.valid (Gr.c (flightG (grOf z1) ek ew))), .int .i64 (Mb.round (Gr.node (flightG (grOf z1) ek ew) (Fin.ofNat 3 0))), .int .i64 (Mb.position (Gr.node (flightG (grOf z1) ek ew) (Fin.ofNat 3 0))), .int .i64
 (Mb.thawed (Gr.node (flightG (grOf z1) ek ew) (Fin.ofNat 3 0))), .int .i64 (Mb.issued (Gr.node (flightG (grOf z1) ek ew) (Fin.ofNat 3 0))), .bool (Mb.frozen (Gr.node (flightG (grOf z1) ek ew) (Fin.ofNat 3 0))), .int .i64
 (Mb.upto (Gr.node (flightG (grOf z1) ek ew) (Fin.ofNat 3 0))), .dat (D.like (hs 0 2) (Mb.waiting (Gr.node (flightG (grOf z1) ek ew) (Fin.ofNat 3 0)))), .dat (D.like (hs 0 3) (Mb.held (Gr.node (flightG
 (grOf z1) ek ew) (Fin.ofNat 3 0)))), .int .i64 (Mb.round (Gr.node (flightG (grOf z1) ek ew) (Fin.ofNat 3 1))), .int .i64 (Mb.position (Gr.node (flightG (grOf z1) ek ew) (Fin.ofNat 3 1))), .int .i64 (Mb.thawed
 (Gr.node (flightG (grOf z1) ek ew) (Fin.ofNat 3 1))), .int .i64 (Mb.issued (Gr.node (flightG (grOf z1) ek ew) (Fin.ofNat 3 1))), .bool (Mb.frozen (Gr.node (flightG (grOf z1) ek ew) (Fin.ofNat 3 1))), .int .i64
 (Mb.upto (Gr.node (flightG (grOf z1) ek ew) (Fin.ofNat 3 1))), .dat (D.like (hs 0 4) (Mb.waiting (Gr.node (flightG (grOf z1) ek ew) (Fin.ofNat 3 1)))), .dat (D.like (hs 0 5) (Mb.held (Gr.node (flightG
 (grOf z1) ek ew) (Fin.ofNat 3 1)))), .int .i64 (Mb.round (Gr.node (flightG (grOf z1) ek ew) (Fin.ofNat 3 2))), .int .i64 (Mb.position (Gr.node (flightG (grOf z1) ek ew) (Fin.ofNat 3 2))), .int .i64 (Mb.thawed
 (Gr.node (flightG (grOf z1) ek ew) (Fin.ofNat 3 2))), .int .i64 (Mb.issued (Gr.node (flightG (grOf z1) ek ew) (Fin.ofNat 3 2))), .bool (Mb.frozen (Gr.node (flightG (grOf z1) ek ew) (Fin.ofNat 3 2))), .int .i64
 (Mb.upto (Gr.node (flightG (grOf z1) ek ew) (Fin.ofNat 3 2))), .dat (D.like (hs 0 6) (Mb.waiting (Gr.node (flightG (grOf z1) ek ew) (Fin.ofNat 3 2)))), .dat (D.like (hs 0 7) (Mb.held (Gr.node (flightG
 (grOf z1) ek ew) (Fin.ofNat 3 2)))), .dat (D.like (hs 0 8) (Gr.flight (flightG (grOf z1) ek ew))), .dat (D.like (hs 0 9) (Gr.wr (flightG (grOf z1) ek ew) (Fin.ofNat 3 0))), .dat (D.like (hs 0 10) (Gr.wr
 (flightG (grOf z1) ek ew) (Fin.ofNat 3 1))), .dat (D.like (hs 0 11) (Gr.wr (flightG (grOf z1) ek ew) (Fin.ofNat 3 2))), .int .i64 (Gr.now (flightG (grOf z1) ek ew)), .int .i64 (Gr.clock (flightG (grOf z1) ek ew)), .bool
 (Gr.right (flightG (grOf z1) ek ew)), .int .i64 (Gr.started (flightG (grOf z1) ek ew))]))))))) := by
 intros; kernel_rfl

theorem step2_go : 
 let z1 : List CV := [.int cn, .int cr, .int cp, .int cdl, .dat cps, .dat css, .bool cv, .int p1, .int p2, .int p3, .int p4, .bool pf, .int p6, .dat pw, .dat ph, .int q1, .int q2, .int q3, .int q4, .bool qf, .int q6, .dat qw, .dat qh, .int r1, .int r2, .int r3, .int r4, .bool rf, .int r6, .dat rw, .dat rh, .dat fl, .dat wa, .dat wb, .dat wc, .int now, .int (IntKind.wrap .i64 (clk + 1)), .bool rt, .int st]
 let z2 := (Prod.fst (issueMb (MbD.mb (MbD.mk r1 r2 r3 r4 rf r6 rw rh))))
 let z3 := (Gr.node (durG (grOf z1) (Fin.ofNat 3 2) ew) (Fin.ofNat 3 2))
 let z4 := (Gr.node (durG (grOf z1) (Fin.ofNat 3 2) ew) (Fin.ofNat 3 1))
 let z5 := (Gr.node (durG (grOf z1) (Fin.ofNat 3 2) ew) (Fin.ofNat 3 0))
 let z6 := (Prod.fst (startCo (CoD.co (CoD.mk cn cr cp cdl cps css cv)) now 20))
 let z7 := (Prod.snd (startCo (CoD.co (CoD.mk cn cr cp cdl cps css cv)) now 20))
 exec Try.prog ctS 900 (stepL cn cr cp cdl cps css cv p1 p2 p3 p4 pf p6 pw ph q1 q2 q3 q4 qf q6 qw qh r1 r2 r3 r4 rf r6 rw rh fl wa wb wc now clk rt st ek en ew 2) =
 Tree.need ((7 : Int) ≠ 0) (.br (decide (Int.tmod ek 7 = 0)) (.need ((0 : Int) ≤ 2 ∧ 2 < (↑3 : Int)) (.need (MbD.Right (MbD.mk r1 r2 r3 r4 rf r6 rw rh)) (.all fun hs => .need ((0 : Int) ≤ 2 ∧ 2 < (↑3 : Int))
 (.br rt (.need ((0 : Int) ≤ 2 ∧ 2 < (↑3 : Int)) (.all fun hs_1 => .need ((0 : Int) ≤ 2 ∧ 2 < (↑3 : Int)) (.need (D.sz (D.slc (D.hd (hs_1 1 0)) 4 []) = 4 ∧ D.Fits wc 4 ∧ (D.len (D.slc (D.hd (hs_1 1 0)) 4 []) + D.len wc) * 32 ≤ 140737488355328 ∧ D.len
 (D.slc (D.hd (hs_1 1 0)) 4 []) + D.len wc ≤ 9223372036854775807) (.need (D.sz (D.slc (D.hd (hs_1 6 0)) 4 (List.append (D.rows (D.slc (D.hd (hs_1 1 0)) 4 [])) (D.rows wc))) = 4 ∧ D.Fits (D.slc (D.hd (hs_1 10 0)) 4 [[D.int .i64
 (IntKind.wrap .i64 (clk + 1)), D.int .i64 0, D.int .i64 0, D.int .i64 0]]) 4 ∧ (D.len (D.slc (D.hd (hs_1 6 0)) 4 (List.append (D.rows (D.slc (D.hd (hs_1 1 0)) 4 [])) (D.rows wc))) + D.len (D.slc (D.hd
 (hs_1 10 0)) 4 [[D.int .i64 (IntKind.wrap .i64 (clk + 1)), D.int .i64 0, D.int .i64 0, D.int .i64 0]])) * 32 ≤ 140737488355328 ∧ D.len (D.slc (D.hd (hs_1 6 0)) 4 (List.append (D.rows (D.slc (D.hd (hs_1 1 0)) 4 []))
 (D.rows wc))) + D.len (D.slc (D.hd (hs_1 10 0)) 4 [[D.int .i64 (IntKind.wrap .i64 (clk + 1)), D.int .i64 0, D.int .i64 0, D.int .i64 0]]) ≤ 9223372036854775807) (.need ((0 : Int) ≤ 2 ∧ 2 < (↑3 : Int))
 (.ret (.agg [.int .i64 cn, .int .i64 cr, .int .i64 cp, .int .i64 cdl, .dat cps, .dat css, .bool cv, .int .i64 p1, .int .i64 p2, .int .i64 p3, .int .i64 p4, .bool pf, .int .i64 p6, .dat pw, .dat ph, .int .i64 q1, .int .i64 q2, .int .i64 q3, .int .i64 q4, .bool qf, .int .i64 q6, .dat qw, .dat qh, .int .i64
 (Mb.round z2), .int .i64 (Mb.position z2), .int .i64 (Mb.thawed z2), .int .i64 (Mb.issued z2), .bool (Mb.frozen z2), .int .i64 (Mb.upto z2), .dat (D.like (hs 0 0) (Mb.waiting z2)), .dat (D.like (hs 0 1)
 (Mb.held z2)), .dat fl, .dat wa, .dat wb, .dat (D.slc (D.hd (hs_1 11 0)) 4 (List.append (D.rows (D.slc (D.hd (hs_1 6 0)) 4 (List.append (D.rows (D.slc (D.hd (hs_1 1 0)) 4 [])) (D.rows wc)))) (D.rows (D.slc
 (D.hd (hs_1 10 0)) 4 [[D.int .i64 (IntKind.wrap .i64 (clk + 1)), D.int .i64 0, D.int .i64 0, D.int .i64 0]])))), .int .i64 now, .int .i64 (IntKind.wrap .i64 (clk + 1)), .bool (decide (Prod.snd (issueMb
 (MbD.mb (MbD.mk r1 r2 r3 r4 rf r6 rw rh))) = (↑(D.len wc) : Int))), .int .i64 st]))))))) (.all fun hs_1 => .need ((0 : Int) ≤ 2 ∧ 2 < (↑3 : Int)) (.need (D.sz (D.slc (D.hd (hs_1 1 0)) 4 []) = 4 ∧ D.Fits wc 4 ∧
 (D.len (D.slc (D.hd (hs_1 1 0)) 4 []) + D.len wc) * 32 ≤ 140737488355328 ∧ D.len (D.slc (D.hd (hs_1 1 0)) 4 []) + D.len wc ≤ 9223372036854775807) (.need (D.sz (D.slc (D.hd (hs_1 6 0)) 4 (List.append (D.rows
 (D.slc (D.hd (hs_1 1 0)) 4 [])) (D.rows wc))) = 4 ∧ D.Fits (D.slc (D.hd (hs_1 10 0)) 4 [[D.int .i64 (IntKind.wrap .i64 (clk + 1)), D.int .i64 0, D.int .i64 0, D.int .i64 0]]) 4 ∧ (D.len (D.slc (D.hd (hs_1 6 0)) 4
 (List.append (D.rows (D.slc (D.hd (hs_1 1 0)) 4 [])) (D.rows wc))) + D.len (D.slc (D.hd (hs_1 10 0)) 4 [[D.int .i64 (IntKind.wrap .i64 (clk + 1)), D.int .i64 0, D.int .i64 0, D.int .i64 0]])) * 32 ≤ 140737488355328 ∧ D.len
 (D.slc (D.hd (hs_1 6 0)) 4 (List.append (D.rows (D.slc (D.hd (hs_1 1 0)) 4 [])) (D.rows wc))) + D.len (D.slc (D.hd (hs_1 10 0)) 4 [[D.int .i64 (IntKind.wrap .i64 (clk + 1)), D.int .i64 0, D.int .i64 0, D.int .i64 0]]) ≤ 9223372036854775807)
 (.need ((0 : Int) ≤ 2 ∧ 2 < (↑3 : Int)) (.ret (.agg [.int .i64 cn, .int .i64 cr, .int .i64 cp, .int .i64 cdl, .dat cps, .dat css, .bool cv, .int .i64 p1, .int .i64 p2, .int .i64 p3, .int .i64 p4, .bool pf, .int .i64 p6, .dat pw, .dat ph, .int .i64 q1, .int .i64 q2, .int .i64 q3, .int .i64 q4, .bool qf, .int .i64 q6, .dat qw, .dat qh, .int .i64
 (Mb.round z2), .int .i64 (Mb.position z2), .int .i64 (Mb.thawed z2), .int .i64 (Mb.issued z2), .bool (Mb.frozen z2), .int .i64 (Mb.upto z2), .dat (D.like (hs 0 0) (Mb.waiting z2)), .dat (D.like (hs 0 1)
 (Mb.held z2)), .dat fl, .dat wa, .dat wb, .dat (D.slc (D.hd (hs_1 11 0)) 4 (List.append (D.rows (D.slc (D.hd (hs_1 6 0)) 4 (List.append (D.rows (D.slc (D.hd (hs_1 1 0)) 4 [])) (D.rows wc)))) (D.rows (D.slc
 (D.hd (hs_1 10 0)) 4 [[D.int .i64 (IntKind.wrap .i64 (clk + 1)), D.int .i64 0, D.int .i64 0, D.int .i64 0]])))), .int .i64 now, .int .i64 (IntKind.wrap .i64 (clk + 1)), .lb false, .int .i64 st]))))))))))
 (.br (decide (Int.tmod ek 7 = 1)) (.need (GrRight z1 ∧ U8 ew ∧ Gr.right (durG (grOf z1) (Fin.ofNat 3 2) ew) = true) (.all fun hs => .ret (.agg [.int .i64 (Co.nodes (Gr.c (durG (grOf z1) (Fin.ofNat 3 2) ew))), .int .i64
 (Co.round (Gr.c (durG (grOf z1) (Fin.ofNat 3 2) ew))), .int .i64 (Co.phase (Gr.c (durG (grOf z1) (Fin.ofNat 3 2) ew))), .int .i64 (Co.deadline (Gr.c (durG (grOf z1) (Fin.ofNat 3 2) ew))), .dat (D.like
 (hs 0 0) (Co.positions (Gr.c (durG (grOf z1) (Fin.ofNat 3 2) ew)))), .dat (D.like (hs 0 1) (Co.seen (Gr.c (durG (grOf z1) (Fin.ofNat 3 2) ew)))), .bool (Co.valid (Gr.c (durG (grOf z1) (Fin.ofNat 3 2) ew))), .int .i64
 (Mb.round z5), .int .i64 (Mb.position z5), .int .i64 (Mb.thawed z5), .int .i64 (Mb.issued z5), .bool (Mb.frozen z5), .int .i64 (Mb.upto z5), .dat (D.like (hs 0 2) (Mb.waiting z5)), .dat (D.like (hs 0 3)
 (Mb.held z5)), .int .i64 (Mb.round z4), .int .i64 (Mb.position z4), .int .i64 (Mb.thawed z4), .int .i64 (Mb.issued z4), .bool (Mb.frozen z4), .int .i64 (Mb.upto z4), .dat (D.like (hs 0 4) (Mb.waiting z4)), .dat
 (D.like (hs 0 5) (Mb.held z4)), .int .i64 (Mb.round z3), .int .i64 (Mb.position z3), .int .i64 (Mb.thawed z3), .int .i64 (Mb.issued z3), .bool (Mb.frozen z3), .int .i64 (Mb.upto z3), .dat (D.like (hs 0 6)
 (Mb.waiting z3)), .dat (D.like (hs 0 7) (Mb.held z3)), .dat (D.like (hs 0 8) (Gr.flight (durG (grOf z1) (Fin.ofNat 3 2) ew))), .dat (D.like (hs 0 9) (Gr.wr (durG (grOf z1) (Fin.ofNat 3 2) ew) (Fin.ofNat 3 0))), .dat
 (D.like (hs 0 10) (Gr.wr (durG (grOf z1) (Fin.ofNat 3 2) ew) (Fin.ofNat 3 1))), .dat (D.like (hs 0 11) (Gr.wr (durG (grOf z1) (Fin.ofNat 3 2) ew) (Fin.ofNat 3 2))), .int .i64 (Gr.now (durG (grOf z1) (Fin.ofNat 3 2) ew)), .int .i64
 (Gr.clock (durG (grOf z1) (Fin.ofNat 3 2) ew)), .bool (Gr.right (durG (grOf z1) (Fin.ofNat 3 2) ew)), .int .i64 (Gr.started (durG (grOf z1) (Fin.ofNat 3 2) ew))]))) (.br (decide (Int.tmod ek 7 = 2)) (.need
 (D.Is Int cps ∧ D.Is Bool css) (.all fun hs => .br (Prod.snd z7 != 0) (.br rt (.ret (.agg [.int .i64 cn, .int .i64 cr, .int .i64 cp, .int .i64 cdl, .dat cps, .dat css, .bool cv, .int .i64 p1, .int .i64 p2, .int .i64 p3, .int .i64 p4, .bool pf, .int .i64 p6, .dat pw, .dat ph, .int .i64 q1, .int .i64 q2, .int .i64 q3, .int .i64 q4, .bool qf, .int .i64 q6, .dat qw, .dat qh, .int .i64 r1, .int .i64 r2, .int .i64 r3, .int .i64 r4, .bool rf, .int .i64 r6, .dat rw, .dat rh, .dat fl, .dat wa, .dat wb, .dat wc, .int .i64 now, .int .i64
 (IntKind.wrap .i64 (clk + 1)), .bool (decide (Prod.snd z7 = 26)), .int .i64 st])) (.ret (.agg [.int .i64 cn, .int .i64 cr, .int .i64 cp, .int .i64 cdl, .dat cps, .dat css, .bool cv, .int .i64 p1, .int .i64 p2, .int .i64 p3, .int .i64 p4, .bool pf, .int .i64 p6, .dat pw, .dat ph, .int .i64 q1, .int .i64 q2, .int .i64 q3, .int .i64 q4, .bool qf, .int .i64 q6, .dat qw, .dat qh, .int .i64 r1, .int .i64 r2, .int .i64 r3, .int .i64 r4, .bool rf, .int .i64 r6, .dat rw, .dat rh, .dat fl, .dat wa, .dat wb, .dat wc, .int .i64 now, .int .i64
 (IntKind.wrap .i64 (clk + 1)), .lb false, .int .i64 st]))) (.need (D.Is Msg fl ∧ D.len fl ≤ 1048576 ∧ D.Is Msg (D.like (hs 0 2) (Prod.fst z7)) ∧ D.len (D.like (hs 0 2) (Prod.fst z7)) ≤ 1048576) (.all fun hs_1 => .ret
 (.agg [.int .i64 (Co.nodes z6), .int .i64 (Co.round z6), .int .i64 (Co.phase z6), .int .i64 (Co.deadline z6), .dat (D.like (hs 0 0) (Co.positions z6)), .dat (D.like (hs 0 1) (Co.seen z6)), .bool (Co.valid z6), .int .i64 p1, .int .i64 p2, .int .i64 p3, .int .i64 p4, .bool pf, .int .i64 p6, .dat pw, .dat ph, .int .i64 q1, .int .i64 q2, .int .i64 q3, .int .i64 q4, .bool qf, .int .i64 q6, .dat qw, .dat qh, .int .i64 r1, .int .i64 r2, .int .i64 r3, .int .i64 r4, .bool rf, .int .i64 r6, .dat rw, .dat rh, .dat
 (D.like (hs_1 0 0) (List.append (D.to Msg fl) (D.to Msg (D.like (hs 0 2) (Prod.fst z7))))), .dat wa, .dat wb, .dat wc, .int .i64 now, .int .i64 (IntKind.wrap .i64 (clk + 1)), .bool rt, .int .i64 (IntKind.wrap .i64
 (st + 1))]))))) (.br (decide (Int.tmod ek 7 = 6)) (.need (GrRight z1 ∧ ((U8 en ∧ U8 ew) ∧ List.length (D.to Msg fl) ≤ 999000) ∧ Gr.right (tickG (grOf z1) en ew) = true) (.all fun hs => .ret (.agg [.int .i64
 (Co.nodes (Gr.c (tickG (grOf z1) en ew))), .int .i64 (Co.round (Gr.c (tickG (grOf z1) en ew))), .int .i64 (Co.phase (Gr.c (tickG (grOf z1) en ew))), .int .i64 (Co.deadline (Gr.c (tickG (grOf z1) en ew))), .dat
 (D.like (hs 0 0) (Co.positions (Gr.c (tickG (grOf z1) en ew)))), .dat (D.like (hs 0 1) (Co.seen (Gr.c (tickG (grOf z1) en ew)))), .bool (Co.valid (Gr.c (tickG (grOf z1) en ew))), .int .i64 (Mb.round (Gr.node
 (tickG (grOf z1) en ew) (Fin.ofNat 3 0))), .int .i64 (Mb.position (Gr.node (tickG (grOf z1) en ew) (Fin.ofNat 3 0))), .int .i64 (Mb.thawed (Gr.node (tickG (grOf z1) en ew) (Fin.ofNat 3 0))), .int .i64
 (Mb.issued (Gr.node (tickG (grOf z1) en ew) (Fin.ofNat 3 0))), .bool (Mb.frozen (Gr.node (tickG (grOf z1) en ew) (Fin.ofNat 3 0))), .int .i64 (Mb.upto (Gr.node (tickG (grOf z1) en ew) (Fin.ofNat 3 0))), .dat
 (D.like (hs 0 2) (Mb.waiting (Gr.node (tickG (grOf z1) en ew) (Fin.ofNat 3 0)))), .dat (D.like (hs 0 3) (Mb.held (Gr.node (tickG (grOf z1) en ew) (Fin.ofNat 3 0)))), .int .i64 (Mb.round (Gr.node (tickG
 (grOf z1) en ew) (Fin.ofNat 3 1))), .int .i64 (Mb.position (Gr.node (tickG (grOf z1) en ew) (Fin.ofNat 3 1))), .int .i64 (Mb.thawed (Gr.node (tickG (grOf z1) en ew) (Fin.ofNat 3 1))), .int .i64 (Mb.issued
 (Gr.node (tickG (grOf z1) en ew) (Fin.ofNat 3 1))), .bool (Mb.frozen (Gr.node (tickG (grOf z1) en ew) (Fin.ofNat 3 1))), .int .i64 (Mb.upto (Gr.node (tickG (grOf z1) en ew) (Fin.ofNat 3 1))), .dat (D.like
 (hs 0 4) (Mb.waiting (Gr.node (tickG (grOf z1) en ew) (Fin.ofNat 3 1)))), .dat (D.like (hs 0 5) (Mb.held (Gr.node (tickG (grOf z1) en ew) (Fin.ofNat 3 1)))), .int .i64 (Mb.round (Gr.node (tickG (grOf z1) en ew)
 (Fin.ofNat 3 2))), .int .i64 (Mb.position (Gr.node (tickG (grOf z1) en ew) (Fin.ofNat 3 2))), .int .i64 (Mb.thawed (Gr.node (tickG (grOf z1) en ew) (Fin.ofNat 3 2))), .int .i64 (Mb.issued (Gr.node (tickG
 (grOf z1) en ew) (Fin.ofNat 3 2))), .bool (Mb.frozen (Gr.node (tickG (grOf z1) en ew) (Fin.ofNat 3 2))), .int .i64 (Mb.upto (Gr.node (tickG (grOf z1) en ew) (Fin.ofNat 3 2))), .dat (D.like (hs 0 6) (Mb.waiting
 (Gr.node (tickG (grOf z1) en ew) (Fin.ofNat 3 2)))), .dat (D.like (hs 0 7) (Mb.held (Gr.node (tickG (grOf z1) en ew) (Fin.ofNat 3 2)))), .dat (D.like (hs 0 8) (Gr.flight (tickG (grOf z1) en ew))), .dat
 (D.like (hs 0 9) (Gr.wr (tickG (grOf z1) en ew) (Fin.ofNat 3 0))), .dat (D.like (hs 0 10) (Gr.wr (tickG (grOf z1) en ew) (Fin.ofNat 3 1))), .dat (D.like (hs 0 11) (Gr.wr (tickG (grOf z1) en ew) (Fin.ofNat 3 2))), .int .i64
 (Gr.now (tickG (grOf z1) en ew)), .int .i64 (Gr.clock (tickG (grOf z1) en ew)), .bool (Gr.right (tickG (grOf z1) en ew)), .int .i64 (Gr.started (tickG (grOf z1) en ew))]))) (.need (GrRight z1 ∧ (U8 ek ∧ U8 ew) ∧ Gr.right
 (flightG (grOf z1) ek ew) = true) (.all fun hs => .ret (.agg [.int .i64 (Co.nodes (Gr.c (flightG (grOf z1) ek ew))), .int .i64 (Co.round (Gr.c (flightG (grOf z1) ek ew))), .int .i64 (Co.phase (Gr.c (flightG
 (grOf z1) ek ew))), .int .i64 (Co.deadline (Gr.c (flightG (grOf z1) ek ew))), .dat (D.like (hs 0 0) (Co.positions (Gr.c (flightG (grOf z1) ek ew)))), .dat (D.like (hs 0 1) (Co.seen (Gr.c (flightG (grOf z1) ek ew)))), .bool
 (Co.valid (Gr.c (flightG (grOf z1) ek ew))), .int .i64 (Mb.round (Gr.node (flightG (grOf z1) ek ew) (Fin.ofNat 3 0))), .int .i64 (Mb.position (Gr.node (flightG (grOf z1) ek ew) (Fin.ofNat 3 0))), .int .i64
 (Mb.thawed (Gr.node (flightG (grOf z1) ek ew) (Fin.ofNat 3 0))), .int .i64 (Mb.issued (Gr.node (flightG (grOf z1) ek ew) (Fin.ofNat 3 0))), .bool (Mb.frozen (Gr.node (flightG (grOf z1) ek ew) (Fin.ofNat 3 0))), .int .i64
 (Mb.upto (Gr.node (flightG (grOf z1) ek ew) (Fin.ofNat 3 0))), .dat (D.like (hs 0 2) (Mb.waiting (Gr.node (flightG (grOf z1) ek ew) (Fin.ofNat 3 0)))), .dat (D.like (hs 0 3) (Mb.held (Gr.node (flightG
 (grOf z1) ek ew) (Fin.ofNat 3 0)))), .int .i64 (Mb.round (Gr.node (flightG (grOf z1) ek ew) (Fin.ofNat 3 1))), .int .i64 (Mb.position (Gr.node (flightG (grOf z1) ek ew) (Fin.ofNat 3 1))), .int .i64 (Mb.thawed
 (Gr.node (flightG (grOf z1) ek ew) (Fin.ofNat 3 1))), .int .i64 (Mb.issued (Gr.node (flightG (grOf z1) ek ew) (Fin.ofNat 3 1))), .bool (Mb.frozen (Gr.node (flightG (grOf z1) ek ew) (Fin.ofNat 3 1))), .int .i64
 (Mb.upto (Gr.node (flightG (grOf z1) ek ew) (Fin.ofNat 3 1))), .dat (D.like (hs 0 4) (Mb.waiting (Gr.node (flightG (grOf z1) ek ew) (Fin.ofNat 3 1)))), .dat (D.like (hs 0 5) (Mb.held (Gr.node (flightG
 (grOf z1) ek ew) (Fin.ofNat 3 1)))), .int .i64 (Mb.round (Gr.node (flightG (grOf z1) ek ew) (Fin.ofNat 3 2))), .int .i64 (Mb.position (Gr.node (flightG (grOf z1) ek ew) (Fin.ofNat 3 2))), .int .i64 (Mb.thawed
 (Gr.node (flightG (grOf z1) ek ew) (Fin.ofNat 3 2))), .int .i64 (Mb.issued (Gr.node (flightG (grOf z1) ek ew) (Fin.ofNat 3 2))), .bool (Mb.frozen (Gr.node (flightG (grOf z1) ek ew) (Fin.ofNat 3 2))), .int .i64
 (Mb.upto (Gr.node (flightG (grOf z1) ek ew) (Fin.ofNat 3 2))), .dat (D.like (hs 0 6) (Mb.waiting (Gr.node (flightG (grOf z1) ek ew) (Fin.ofNat 3 2)))), .dat (D.like (hs 0 7) (Mb.held (Gr.node (flightG
 (grOf z1) ek ew) (Fin.ofNat 3 2)))), .dat (D.like (hs 0 8) (Gr.flight (flightG (grOf z1) ek ew))), .dat (D.like (hs 0 9) (Gr.wr (flightG (grOf z1) ek ew) (Fin.ofNat 3 0))), .dat (D.like (hs 0 10) (Gr.wr
 (flightG (grOf z1) ek ew) (Fin.ofNat 3 1))), .dat (D.like (hs 0 11) (Gr.wr (flightG (grOf z1) ek ew) (Fin.ofNat 3 2))), .int .i64 (Gr.now (flightG (grOf z1) ek ew)), .int .i64 (Gr.clock (flightG (grOf z1) ek ew)), .bool
 (Gr.right (flightG (grOf z1) ek ew)), .int .i64 (Gr.started (flightG (grOf z1) ek ew))]))))))) := by
 intros; kernel_rfl

end
end Go.Proofs.Ytoechplbhbalaaa
end
section
/- Layer 21: the law of step. -/
open Go Go.Proofs Sx
namespace Sx
theorem issue_bool {rt : Bool} {a : Int} {n m : Nat} (h : rt = true) (hl : n = m) : (rt && decide (a = (m : Int))) = decide (a = (n : Int)) := by rw [h, hl, Bool.true_and]
theorem tmod7 {k a b : Int} (h : Int.tmod k 7 = a) (hab : a ≠ b) : ¬Int.tmod k 7 = b := fun h2 => hab (h.symm.trans h2)
end Sx
namespace Go.Proofs.Ytoechplbhbalaaa
set_option maxRecDepth 100000
set_option maxHeartbeats 0

theorem clk_eq {cn cr cp cdl : Int} {cps css : D} {cv : Bool} {p1 p2 p3 p4 : Int} {pf : Bool} {p6 : Int} {pw ph : D} {q1 q2 q3 q4 : Int} {qf : Bool} {q6 : Int} {qw qh : D} {r1 r2 r3 r4 : Int} {rf : Bool} {r6 : Int} {rw rh : D} {fl wa wb wc : D} {now clk : Int} {rt : Bool} {st : Int} : ({ (grOf (CV.int cn :: CV.int cr :: CV.int cp :: CV.int cdl :: CV.dat cps :: CV.dat css :: CV.bool cv :: CV.int p1 :: CV.int p2 :: CV.int p3 :: CV.int p4 :: CV.bool pf :: CV.int p6 :: CV.dat pw :: CV.dat ph :: CV.int q1 :: CV.int q2 :: CV.int q3 :: CV.int q4 :: CV.bool qf :: CV.int q6 :: CV.dat qw :: CV.dat qh :: CV.int r1 :: CV.int r2 :: CV.int r3 :: CV.int r4 :: CV.bool rf :: CV.int r6 :: CV.dat rw :: CV.dat rh :: CV.dat fl :: CV.dat wa :: CV.dat wb :: CV.dat wc :: CV.int now :: CV.int clk :: CV.bool rt :: CV.int st :: [])) with clock := IntKind.i64.wrap ((grOf (CV.int cn :: CV.int cr :: CV.int cp :: CV.int cdl :: CV.dat cps :: CV.dat css :: CV.bool cv :: CV.int p1 :: CV.int p2 :: CV.int p3 :: CV.int p4 :: CV.bool pf :: CV.int p6 :: CV.dat pw :: CV.dat ph :: CV.int q1 :: CV.int q2 :: CV.int q3 :: CV.int q4 :: CV.bool qf :: CV.int q6 :: CV.dat qw :: CV.dat qh :: CV.int r1 :: CV.int r2 :: CV.int r3 :: CV.int r4 :: CV.bool rf :: CV.int r6 :: CV.dat rw :: CV.dat rh :: CV.dat fl :: CV.dat wa :: CV.dat wb :: CV.dat wc :: CV.int now :: CV.int clk :: CV.bool rt :: CV.int st :: [])).clock + 1) } : Gr) = grOf (CV.int cn :: CV.int cr :: CV.int cp :: CV.int cdl :: CV.dat cps :: CV.dat css :: CV.bool cv :: CV.int p1 :: CV.int p2 :: CV.int p3 :: CV.int p4 :: CV.bool pf :: CV.int p6 :: CV.dat pw :: CV.dat ph :: CV.int q1 :: CV.int q2 :: CV.int q3 :: CV.int q4 :: CV.bool qf :: CV.int q6 :: CV.dat qw :: CV.dat qh :: CV.int r1 :: CV.int r2 :: CV.int r3 :: CV.int r4 :: CV.bool rf :: CV.int r6 :: CV.dat rw :: CV.dat rh :: CV.dat fl :: CV.dat wa :: CV.dat wb :: CV.dat wc :: CV.int now :: CV.int (IntKind.i64.wrap (clk + 1)) :: CV.bool rt :: CV.int st :: []) := by
  rw [grOf_eq, grOf_eq]
theorem clk_right {cn cr cp cdl : Int} {cps css : D} {cv : Bool} {p1 p2 p3 p4 : Int} {pf : Bool} {p6 : Int} {pw ph : D} {q1 q2 q3 q4 : Int} {qf : Bool} {q6 : Int} {qw qh : D} {r1 r2 r3 r4 : Int} {rf : Bool} {r6 : Int} {rw rh : D} {fl wa wb wc : D} {now clk : Int} {rt : Bool} {st : Int} (h : GrRight (CV.int cn :: CV.int cr :: CV.int cp :: CV.int cdl :: CV.dat cps :: CV.dat css :: CV.bool cv :: CV.int p1 :: CV.int p2 :: CV.int p3 :: CV.int p4 :: CV.bool pf :: CV.int p6 :: CV.dat pw :: CV.dat ph :: CV.int q1 :: CV.int q2 :: CV.int q3 :: CV.int q4 :: CV.bool qf :: CV.int q6 :: CV.dat qw :: CV.dat qh :: CV.int r1 :: CV.int r2 :: CV.int r3 :: CV.int r4 :: CV.bool rf :: CV.int r6 :: CV.dat rw :: CV.dat rh :: CV.dat fl :: CV.dat wa :: CV.dat wb :: CV.dat wc :: CV.int now :: CV.int clk :: CV.bool rt :: CV.int st :: [])) : GrRight (CV.int cn :: CV.int cr :: CV.int cp :: CV.int cdl :: CV.dat cps :: CV.dat css :: CV.bool cv :: CV.int p1 :: CV.int p2 :: CV.int p3 :: CV.int p4 :: CV.bool pf :: CV.int p6 :: CV.dat pw :: CV.dat ph :: CV.int q1 :: CV.int q2 :: CV.int q3 :: CV.int q4 :: CV.bool qf :: CV.int q6 :: CV.dat qw :: CV.dat qh :: CV.int r1 :: CV.int r2 :: CV.int r3 :: CV.int r4 :: CV.bool rf :: CV.int r6 :: CV.dat rw :: CV.dat rh :: CV.dat fl :: CV.dat wa :: CV.dat wb :: CV.dat wc :: CV.int now :: CV.int (IntKind.i64.wrap (clk + 1)) :: CV.bool rt :: CV.int st :: []) := by
  rw [grRight_eq] at h ⊢
  exact h

theorem step0_run {w : World} {H : HV} {cn cr cp cdl : Int} {cps css : D} {cv : Bool} {p1 p2 p3 p4 : Int} {pf : Bool} {p6 : Int} {pw ph : D} {q1 q2 q3 q4 : Int} {qf : Bool} {q6 : Int} {qw qh : D} {r1 r2 r3 r4 : Int} {rf : Bool} {r6 : Int} {rw rh : D} {fl wa wb wc : D} {now clk : Int} {rt : Bool} {st : Int} {ek en ew : Int} (hek : U8 ek) (hen : U8 en) (hew : U8 ew) (hR : GrRight (CV.int cn :: CV.int cr :: CV.int cp :: CV.int cdl :: CV.dat cps :: CV.dat css :: CV.bool cv :: CV.int p1 :: CV.int p2 :: CV.int p3 :: CV.int p4 :: CV.bool pf :: CV.int p6 :: CV.dat pw :: CV.dat ph :: CV.int q1 :: CV.int q2 :: CV.int q3 :: CV.int q4 :: CV.bool qf :: CV.int q6 :: CV.dat qw :: CV.dat qh :: CV.int r1 :: CV.int r2 :: CV.int r3 :: CV.int r4 :: CV.bool rf :: CV.int r6 :: CV.dat rw :: CV.dat rh :: CV.dat fl :: CV.dat wa :: CV.dat wb :: CV.dat wc :: CV.int now :: CV.int clk :: CV.bool rt :: CV.int st :: [])) (hf9 : (grOf (CV.int cn :: CV.int cr :: CV.int cp :: CV.int cdl :: CV.dat cps :: CV.dat css :: CV.bool cv :: CV.int p1 :: CV.int p2 :: CV.int p3 :: CV.int p4 :: CV.bool pf :: CV.int p6 :: CV.dat pw :: CV.dat ph :: CV.int q1 :: CV.int q2 :: CV.int q3 :: CV.int q4 :: CV.bool qf :: CV.int q6 :: CV.dat qw :: CV.dat qh :: CV.int r1 :: CV.int r2 :: CV.int r3 :: CV.int r4 :: CV.bool rf :: CV.int r6 :: CV.dat rw :: CV.dat rh :: CV.dat fl :: CV.dat wa :: CV.dat wb :: CV.dat wc :: CV.int now :: CV.int clk :: CV.bool rt :: CV.int st :: [])).flight.length ≤ 999000) (hr : (Sx.stepG (grOf (CV.int cn :: CV.int cr :: CV.int cp :: CV.int cdl :: CV.dat cps :: CV.dat css :: CV.bool cv :: CV.int p1 :: CV.int p2 :: CV.int p3 :: CV.int p4 :: CV.bool pf :: CV.int p6 :: CV.dat pw :: CV.dat ph :: CV.int q1 :: CV.int q2 :: CV.int q3 :: CV.int q4 :: CV.bool qf :: CV.int q6 :: CV.dat qw :: CV.dat qh :: CV.int r1 :: CV.int r2 :: CV.int r3 :: CV.int r4 :: CV.bool rf :: CV.int r6 :: CV.dat rw :: CV.dat rh :: CV.dat fl :: CV.dat wa :: CV.dat wb :: CV.dat wc :: CV.int now :: CV.int clk :: CV.bool rt :: CV.int st :: [])) ek 0 en ew).right = true) :
    Runs Try.prog ⟨w, H⟩ (stepL cn cr cp cdl cps css cv p1 p2 p3 p4 pf p6 pw ph q1 q2 q3 q4 qf q6 qw qh r1 r2 r3 r4 rf r6 rw rh fl wa wb wc now clk rt st ek en ew 0) (RetD w H fun ds => .agg (svOf ds 0 (Sx.stepG (grOf (CV.int cn :: CV.int cr :: CV.int cp :: CV.int cdl :: CV.dat cps :: CV.dat css :: CV.bool cv :: CV.int p1 :: CV.int p2 :: CV.int p3 :: CV.int p4 :: CV.bool pf :: CV.int p6 :: CV.dat pw :: CV.dat ph :: CV.int q1 :: CV.int q2 :: CV.int q3 :: CV.int q4 :: CV.bool qf :: CV.int q6 :: CV.dat qw :: CV.dat qh :: CV.int r1 :: CV.int r2 :: CV.int r3 :: CV.int r4 :: CV.bool rf :: CV.int r6 :: CV.dat rw :: CV.dat rh :: CV.dat fl :: CV.dat wa :: CV.dat wb :: CV.dat wc :: CV.int now :: CV.int clk :: CV.bool rt :: CV.int st :: [])) ek 0 en ew).cls)) := by
  have hRc := clk_right hR
  rw [grRight_eq] at hR
  obtain ⟨⟨hc1, hc2⟩, hp, hq, hr', ⟨hf, hfl⟩, ⟨ha, hal⟩, ⟨hb, hbl⟩, ⟨hcc, hcl⟩⟩ := hR
  have hp' := hp; have hq' := hq; have hr2 := hr'
  obtain ⟨hpw, hph, hpl, hpm⟩ := hp'
  obtain ⟨hqw, hqh, hql, hqm⟩ := hq'
  obtain ⟨hrw, hrh, hrl, hrm⟩ := hr2
  simp only at hpw hph hpl hpm hqw hqh hql hqm hrw hrh hrl hrm
  have lW := D.Is.length (α := Wr) wa
  have lW2 := rows_len (rows_of ha)
  have lF := D.Is.length (α := Msg) fl
  have f9 : (fl.to Msg).length ≤ 999000 := by rw [grOf_eq] at hf9; exact hf9
  have n7 : (7 : Int) ≠ 0 := by decide
  have nn : (0 : Int) ≤ 0 ∧ (0 : Int) < ((3 : Nat) : Int) := by omega
  apply exec_sound ctSOk 900
  rw [step0_go]
  refine ⟨n7, fun h0 => ?_, fun h0 => ⟨fun h1 => ?_, fun h1 => ⟨fun h2 => ?_, fun h2 => ⟨fun h6 => ?_, fun h6 => ?_⟩⟩⟩⟩
  · have h0 : Int.tmod ek 7 = 0 := of_decide_eq_true h0
    have e : Sx.stepG (grOf (CV.int cn :: CV.int cr :: CV.int cp :: CV.int cdl :: CV.dat cps :: CV.dat css :: CV.bool cv :: CV.int p1 :: CV.int p2 :: CV.int p3 :: CV.int p4 :: CV.bool pf :: CV.int p6 :: CV.dat pw :: CV.dat ph :: CV.int q1 :: CV.int q2 :: CV.int q3 :: CV.int q4 :: CV.bool qf :: CV.int q6 :: CV.dat qw :: CV.dat qh :: CV.int r1 :: CV.int r2 :: CV.int r3 :: CV.int r4 :: CV.bool rf :: CV.int r6 :: CV.dat rw :: CV.dat rh :: CV.dat fl :: CV.dat wa :: CV.dat wb :: CV.dat wc :: CV.int now :: CV.int clk :: CV.bool rt :: CV.int st :: [])) ek 0 en ew = issueG (grOf (CV.int cn :: CV.int cr :: CV.int cp :: CV.int cdl :: CV.dat cps :: CV.dat css :: CV.bool cv :: CV.int p1 :: CV.int p2 :: CV.int p3 :: CV.int p4 :: CV.bool pf :: CV.int p6 :: CV.dat pw :: CV.dat ph :: CV.int q1 :: CV.int q2 :: CV.int q3 :: CV.int q4 :: CV.bool qf :: CV.int q6 :: CV.dat qw :: CV.dat qh :: CV.int r1 :: CV.int r2 :: CV.int r3 :: CV.int r4 :: CV.bool rf :: CV.int r6 :: CV.dat rw :: CV.dat rh :: CV.dat fl :: CV.dat wa :: CV.dat wb :: CV.dat wc :: CV.int now :: CV.int (IntKind.i64.wrap (clk + 1)) :: CV.bool rt :: CV.int st :: [])) 0 := by rw [Sx.stepG, if_pos h0, clk_eq]
    rw [e] at hr ⊢
    rw [grOf_eq] at hr ⊢
    simp only [issueG, tri_0, tri_1, tri_2, tri_upd0, tri_upd1, tri_upd2, Bool.and_eq_true] at hr
    simp only [issueG, tri_0, tri_1, tri_2, tri_upd0, tri_upd1, tri_upd2, cls_tri]
    obtain ⟨hrt, hlen⟩ := hr
    have hrow : SRows Wr (List.append (D.rows wa) [[.int .i64 (IntKind.i64.wrap (clk + 1)), .int .i64 0, .int .i64 0, .int .i64 0]]) (wa.to Wr ++ [⟨IntKind.i64.wrap (clk + 1), 0, 0, 0⟩]) := rows_app (rows_of ha) (rows_one ⟨_, _, _, _, rfl⟩ rfl)
    refine ⟨nn, hp, fun hs => ⟨nn, fun _ => ⟨nn, fun hs1 => ⟨nn, ⟨rfl, ha.fits, by simp only [len_slc, List.length_nil]; omega, by simp only [len_slc, List.length_nil]; omega⟩, ⟨rfl, .inr rfl, ?_, ?_⟩, nn, ?_⟩⟩, fun h => absurd (hrt.symm.trans h) (by decide)⟩⟩
    · have e1 : (List.append (D.rows (D.slc (D.hd (hs1 1 0)) 4 [])) (D.rows wa)).length = (D.rows wa).length := rfl
      simp only [len_slc, e1, List.length_cons, List.length_nil]; omega
    · have e1 : (List.append (D.rows (D.slc (D.hd (hs1 1 0)) 4 [])) (D.rows wa)).length = (D.rows wa).length := rfl
      simp only [len_slc, e1, List.length_cons, List.length_nil]; omega
    · refine ret_cells ?_
      repeat' first
      | exact .nil
      | refine .cons ?_ ?_
      | exact rfl
      | exact fun _ => rfl
      | exact lst_ok stands_like
      | exact lst_ok (stands_self (by assumption))
      | exact lst_ok (stands_rows rfl hrow)
      | exact bool_ok (issue_bool hrt lW)
      | fail
  · have h1 : Int.tmod ek 7 = 1 := of_decide_eq_true h1
    have e : Sx.stepG (grOf (CV.int cn :: CV.int cr :: CV.int cp :: CV.int cdl :: CV.dat cps :: CV.dat css :: CV.bool cv :: CV.int p1 :: CV.int p2 :: CV.int p3 :: CV.int p4 :: CV.bool pf :: CV.int p6 :: CV.dat pw :: CV.dat ph :: CV.int q1 :: CV.int q2 :: CV.int q3 :: CV.int q4 :: CV.bool qf :: CV.int q6 :: CV.dat qw :: CV.dat qh :: CV.int r1 :: CV.int r2 :: CV.int r3 :: CV.int r4 :: CV.bool rf :: CV.int r6 :: CV.dat rw :: CV.dat rh :: CV.dat fl :: CV.dat wa :: CV.dat wb :: CV.dat wc :: CV.int now :: CV.int clk :: CV.bool rt :: CV.int st :: [])) ek 0 en ew = durG (grOf (CV.int cn :: CV.int cr :: CV.int cp :: CV.int cdl :: CV.dat cps :: CV.dat css :: CV.bool cv :: CV.int p1 :: CV.int p2 :: CV.int p3 :: CV.int p4 :: CV.bool pf :: CV.int p6 :: CV.dat pw :: CV.dat ph :: CV.int q1 :: CV.int q2 :: CV.int q3 :: CV.int q4 :: CV.bool qf :: CV.int q6 :: CV.dat qw :: CV.dat qh :: CV.int r1 :: CV.int r2 :: CV.int r3 :: CV.int r4 :: CV.bool rf :: CV.int r6 :: CV.dat rw :: CV.dat rh :: CV.dat fl :: CV.dat wa :: CV.dat wb :: CV.dat wc :: CV.int now :: CV.int (IntKind.i64.wrap (clk + 1)) :: CV.bool rt :: CV.int st :: [])) 0 ew := by rw [Sx.stepG, if_neg (tmod7 h1 (by decide)), if_pos h1, clk_eq]
    rw [e] at hr ⊢
    refine ⟨⟨hRc, hew, hr⟩, fun hs1 => ?_⟩
    exact ret_D (P := Try.prog) (w := w) (H := H) (v := .agg (svOf (hs1 0) 0 (durG (grOf (CV.int cn :: CV.int cr :: CV.int cp :: CV.int cdl :: CV.dat cps :: CV.dat css :: CV.bool cv :: CV.int p1 :: CV.int p2 :: CV.int p3 :: CV.int p4 :: CV.bool pf :: CV.int p6 :: CV.dat pw :: CV.dat ph :: CV.int q1 :: CV.int q2 :: CV.int q3 :: CV.int q4 :: CV.bool qf :: CV.int q6 :: CV.dat qw :: CV.dat qh :: CV.int r1 :: CV.int r2 :: CV.int r3 :: CV.int r4 :: CV.bool rf :: CV.int r6 :: CV.dat rw :: CV.dat rh :: CV.dat fl :: CV.dat wa :: CV.dat wb :: CV.dat wc :: CV.int now :: CV.int (IntKind.i64.wrap (clk + 1)) :: CV.bool rt :: CV.int st :: [])) 0 ew).cls)) (g := fun ds => .agg (svOf ds 0 (durG (grOf (CV.int cn :: CV.int cr :: CV.int cp :: CV.int cdl :: CV.dat cps :: CV.dat css :: CV.bool cv :: CV.int p1 :: CV.int p2 :: CV.int p3 :: CV.int p4 :: CV.bool pf :: CV.int p6 :: CV.dat pw :: CV.dat ph :: CV.int q1 :: CV.int q2 :: CV.int q3 :: CV.int q4 :: CV.bool qf :: CV.int q6 :: CV.dat qw :: CV.dat qh :: CV.int r1 :: CV.int r2 :: CV.int r3 :: CV.int r4 :: CV.bool rf :: CV.int r6 :: CV.dat rw :: CV.dat rh :: CV.dat fl :: CV.dat wa :: CV.dat wb :: CV.dat wc :: CV.int now :: CV.int (IntKind.i64.wrap (clk + 1)) :: CV.bool rt :: CV.int st :: [])) 0 ew).cls)) (hs1 0) (fun _ _ => rfl) (fun _ h => h)
  · have h2 : Int.tmod ek 7 = 2 := of_decide_eq_true h2
    have e : Sx.stepG (grOf (CV.int cn :: CV.int cr :: CV.int cp :: CV.int cdl :: CV.dat cps :: CV.dat css :: CV.bool cv :: CV.int p1 :: CV.int p2 :: CV.int p3 :: CV.int p4 :: CV.bool pf :: CV.int p6 :: CV.dat pw :: CV.dat ph :: CV.int q1 :: CV.int q2 :: CV.int q3 :: CV.int q4 :: CV.bool qf :: CV.int q6 :: CV.dat qw :: CV.dat qh :: CV.int r1 :: CV.int r2 :: CV.int r3 :: CV.int r4 :: CV.bool rf :: CV.int r6 :: CV.dat rw :: CV.dat rh :: CV.dat fl :: CV.dat wa :: CV.dat wb :: CV.dat wc :: CV.int now :: CV.int clk :: CV.bool rt :: CV.int st :: [])) ek 0 en ew = roundG (grOf (CV.int cn :: CV.int cr :: CV.int cp :: CV.int cdl :: CV.dat cps :: CV.dat css :: CV.bool cv :: CV.int p1 :: CV.int p2 :: CV.int p3 :: CV.int p4 :: CV.bool pf :: CV.int p6 :: CV.dat pw :: CV.dat ph :: CV.int q1 :: CV.int q2 :: CV.int q3 :: CV.int q4 :: CV.bool qf :: CV.int q6 :: CV.dat qw :: CV.dat qh :: CV.int r1 :: CV.int r2 :: CV.int r3 :: CV.int r4 :: CV.bool rf :: CV.int r6 :: CV.dat rw :: CV.dat rh :: CV.dat fl :: CV.dat wa :: CV.dat wb :: CV.dat wc :: CV.int now :: CV.int (IntKind.i64.wrap (clk + 1)) :: CV.bool rt :: CV.int st :: [])) := by rw [Sx.stepG, if_neg (tmod7 h2 (by decide)), if_neg (tmod7 h2 (by decide)), if_pos h2, clk_eq]
    rw [e] at hr ⊢
    rw [grOf_eq] at hr ⊢
    obtain ⟨s1, s2, s3, s4⟩ := startCo_len ⟨cn, cr, cp, cdl, cps.to Int, css.to Bool, cv⟩ now 20
    refine ⟨⟨hc1, hc2⟩, fun hs => ⟨fun hx => ?_, fun hx => ?_⟩⟩
    · have hx : ¬(startCo ⟨cn, cr, cp, cdl, cps.to Int, css.to Bool, cv⟩ now 20).2.2 = 0 := by simp only [bne_iff_ne, ne_eq] at hx; exact hx
      rw [roundG] at hr ⊢
      simp only at hr ⊢
      rw [if_pos hx] at hr ⊢
      simp only [Bool.and_eq_true] at hr
      obtain ⟨hrt, hbz⟩ := hr
      refine ⟨fun _ => ?_, fun h => absurd (hrt.symm.trans h) (by decide)⟩
      rw [cls_tri]
      refine ret_cells ?_
      repeat' first
      | exact .nil
      | refine .cons ?_ ?_
      | exact rfl
      | exact fun _ => rfl
      | exact lst_ok stands_like
      | exact lst_ok (stands_self (by assumption))
      | exact bool_ok (by rw [hrt, Bool.true_and]; rfl)
      | fail
    · have hx : (startCo ⟨cn, cr, cp, cdl, cps.to Int, css.to Bool, cv⟩ now 20).2.2 = 0 := by simp only [bne_eq_false_iff_eq] at hx; exact hx
      rw [roundG] at hr ⊢
      simp only at hr ⊢
      rw [if_neg (not_not_intro hx)] at hr ⊢
      simp only [sendG] at hr ⊢
      refine ⟨⟨hf, by omega, D.like_is _ _, ?_⟩, fun hs1 => ?_⟩
      · rw [like_len]; exact Nat.le_trans s3 (by omega)
      rw [cls_tri]
      refine ret_cells ?_
      repeat' first
      | exact .nil
      | refine .cons ?_ ?_
      | exact rfl
      | exact fun _ => rfl
      | exact lst_ok stands_like
      | exact lst_ok (stands_self (by assumption))
      | exact lst_ok (by rw [D.like_to]; exact stands_like)
      | fail
  · have h6 : Int.tmod ek 7 = 6 := of_decide_eq_true h6
    have e : Sx.stepG (grOf (CV.int cn :: CV.int cr :: CV.int cp :: CV.int cdl :: CV.dat cps :: CV.dat css :: CV.bool cv :: CV.int p1 :: CV.int p2 :: CV.int p3 :: CV.int p4 :: CV.bool pf :: CV.int p6 :: CV.dat pw :: CV.dat ph :: CV.int q1 :: CV.int q2 :: CV.int q3 :: CV.int q4 :: CV.bool qf :: CV.int q6 :: CV.dat qw :: CV.dat qh :: CV.int r1 :: CV.int r2 :: CV.int r3 :: CV.int r4 :: CV.bool rf :: CV.int r6 :: CV.dat rw :: CV.dat rh :: CV.dat fl :: CV.dat wa :: CV.dat wb :: CV.dat wc :: CV.int now :: CV.int clk :: CV.bool rt :: CV.int st :: [])) ek 0 en ew = tickG (grOf (CV.int cn :: CV.int cr :: CV.int cp :: CV.int cdl :: CV.dat cps :: CV.dat css :: CV.bool cv :: CV.int p1 :: CV.int p2 :: CV.int p3 :: CV.int p4 :: CV.bool pf :: CV.int p6 :: CV.dat pw :: CV.dat ph :: CV.int q1 :: CV.int q2 :: CV.int q3 :: CV.int q4 :: CV.bool qf :: CV.int q6 :: CV.dat qw :: CV.dat qh :: CV.int r1 :: CV.int r2 :: CV.int r3 :: CV.int r4 :: CV.bool rf :: CV.int r6 :: CV.dat rw :: CV.dat rh :: CV.dat fl :: CV.dat wa :: CV.dat wb :: CV.dat wc :: CV.int now :: CV.int (IntKind.i64.wrap (clk + 1)) :: CV.bool rt :: CV.int st :: [])) en ew := by rw [Sx.stepG, if_neg (tmod7 h6 (by decide)), if_neg (tmod7 h6 (by decide)), if_neg (tmod7 h6 (by decide)), if_pos h6, clk_eq]
    rw [e] at hr ⊢
    refine ⟨⟨hRc, ⟨⟨hen, hew⟩, f9⟩, hr⟩, fun hs1 => ?_⟩
    exact ret_D (P := Try.prog) (w := w) (H := H) (v := .agg (svOf (hs1 0) 0 (tickG (grOf (CV.int cn :: CV.int cr :: CV.int cp :: CV.int cdl :: CV.dat cps :: CV.dat css :: CV.bool cv :: CV.int p1 :: CV.int p2 :: CV.int p3 :: CV.int p4 :: CV.bool pf :: CV.int p6 :: CV.dat pw :: CV.dat ph :: CV.int q1 :: CV.int q2 :: CV.int q3 :: CV.int q4 :: CV.bool qf :: CV.int q6 :: CV.dat qw :: CV.dat qh :: CV.int r1 :: CV.int r2 :: CV.int r3 :: CV.int r4 :: CV.bool rf :: CV.int r6 :: CV.dat rw :: CV.dat rh :: CV.dat fl :: CV.dat wa :: CV.dat wb :: CV.dat wc :: CV.int now :: CV.int (IntKind.i64.wrap (clk + 1)) :: CV.bool rt :: CV.int st :: [])) en ew).cls)) (g := fun ds => .agg (svOf ds 0 (tickG (grOf (CV.int cn :: CV.int cr :: CV.int cp :: CV.int cdl :: CV.dat cps :: CV.dat css :: CV.bool cv :: CV.int p1 :: CV.int p2 :: CV.int p3 :: CV.int p4 :: CV.bool pf :: CV.int p6 :: CV.dat pw :: CV.dat ph :: CV.int q1 :: CV.int q2 :: CV.int q3 :: CV.int q4 :: CV.bool qf :: CV.int q6 :: CV.dat qw :: CV.dat qh :: CV.int r1 :: CV.int r2 :: CV.int r3 :: CV.int r4 :: CV.bool rf :: CV.int r6 :: CV.dat rw :: CV.dat rh :: CV.dat fl :: CV.dat wa :: CV.dat wb :: CV.dat wc :: CV.int now :: CV.int (IntKind.i64.wrap (clk + 1)) :: CV.bool rt :: CV.int st :: [])) en ew).cls)) (hs1 0) (fun _ _ => rfl) (fun _ h => h)
  · have h0 : ¬Int.tmod ek 7 = 0 := of_decide_eq_false h0
    have h1 : ¬Int.tmod ek 7 = 1 := of_decide_eq_false h1
    have h2 : ¬Int.tmod ek 7 = 2 := of_decide_eq_false h2
    have h6 : ¬Int.tmod ek 7 = 6 := of_decide_eq_false h6
    have e : Sx.stepG (grOf (CV.int cn :: CV.int cr :: CV.int cp :: CV.int cdl :: CV.dat cps :: CV.dat css :: CV.bool cv :: CV.int p1 :: CV.int p2 :: CV.int p3 :: CV.int p4 :: CV.bool pf :: CV.int p6 :: CV.dat pw :: CV.dat ph :: CV.int q1 :: CV.int q2 :: CV.int q3 :: CV.int q4 :: CV.bool qf :: CV.int q6 :: CV.dat qw :: CV.dat qh :: CV.int r1 :: CV.int r2 :: CV.int r3 :: CV.int r4 :: CV.bool rf :: CV.int r6 :: CV.dat rw :: CV.dat rh :: CV.dat fl :: CV.dat wa :: CV.dat wb :: CV.dat wc :: CV.int now :: CV.int clk :: CV.bool rt :: CV.int st :: [])) ek 0 en ew = flightG (grOf (CV.int cn :: CV.int cr :: CV.int cp :: CV.int cdl :: CV.dat cps :: CV.dat css :: CV.bool cv :: CV.int p1 :: CV.int p2 :: CV.int p3 :: CV.int p4 :: CV.bool pf :: CV.int p6 :: CV.dat pw :: CV.dat ph :: CV.int q1 :: CV.int q2 :: CV.int q3 :: CV.int q4 :: CV.bool qf :: CV.int q6 :: CV.dat qw :: CV.dat qh :: CV.int r1 :: CV.int r2 :: CV.int r3 :: CV.int r4 :: CV.bool rf :: CV.int r6 :: CV.dat rw :: CV.dat rh :: CV.dat fl :: CV.dat wa :: CV.dat wb :: CV.dat wc :: CV.int now :: CV.int (IntKind.i64.wrap (clk + 1)) :: CV.bool rt :: CV.int st :: [])) ek ew := by rw [Sx.stepG, if_neg h0, if_neg h1, if_neg h2, if_neg h6, clk_eq]
    rw [e] at hr ⊢
    refine ⟨⟨hRc, ⟨hek, hew⟩, hr⟩, fun hs1 => ?_⟩
    exact ret_D (P := Try.prog) (w := w) (H := H) (v := .agg (svOf (hs1 0) 0 (flightG (grOf (CV.int cn :: CV.int cr :: CV.int cp :: CV.int cdl :: CV.dat cps :: CV.dat css :: CV.bool cv :: CV.int p1 :: CV.int p2 :: CV.int p3 :: CV.int p4 :: CV.bool pf :: CV.int p6 :: CV.dat pw :: CV.dat ph :: CV.int q1 :: CV.int q2 :: CV.int q3 :: CV.int q4 :: CV.bool qf :: CV.int q6 :: CV.dat qw :: CV.dat qh :: CV.int r1 :: CV.int r2 :: CV.int r3 :: CV.int r4 :: CV.bool rf :: CV.int r6 :: CV.dat rw :: CV.dat rh :: CV.dat fl :: CV.dat wa :: CV.dat wb :: CV.dat wc :: CV.int now :: CV.int (IntKind.i64.wrap (clk + 1)) :: CV.bool rt :: CV.int st :: [])) ek ew).cls)) (g := fun ds => .agg (svOf ds 0 (flightG (grOf (CV.int cn :: CV.int cr :: CV.int cp :: CV.int cdl :: CV.dat cps :: CV.dat css :: CV.bool cv :: CV.int p1 :: CV.int p2 :: CV.int p3 :: CV.int p4 :: CV.bool pf :: CV.int p6 :: CV.dat pw :: CV.dat ph :: CV.int q1 :: CV.int q2 :: CV.int q3 :: CV.int q4 :: CV.bool qf :: CV.int q6 :: CV.dat qw :: CV.dat qh :: CV.int r1 :: CV.int r2 :: CV.int r3 :: CV.int r4 :: CV.bool rf :: CV.int r6 :: CV.dat rw :: CV.dat rh :: CV.dat fl :: CV.dat wa :: CV.dat wb :: CV.dat wc :: CV.int now :: CV.int (IntKind.i64.wrap (clk + 1)) :: CV.bool rt :: CV.int st :: [])) ek ew).cls)) (hs1 0) (fun _ _ => rfl) (fun _ h => h)

theorem step1_run {w : World} {H : HV} {cn cr cp cdl : Int} {cps css : D} {cv : Bool} {p1 p2 p3 p4 : Int} {pf : Bool} {p6 : Int} {pw ph : D} {q1 q2 q3 q4 : Int} {qf : Bool} {q6 : Int} {qw qh : D} {r1 r2 r3 r4 : Int} {rf : Bool} {r6 : Int} {rw rh : D} {fl wa wb wc : D} {now clk : Int} {rt : Bool} {st : Int} {ek en ew : Int} (hek : U8 ek) (hen : U8 en) (hew : U8 ew) (hR : GrRight (CV.int cn :: CV.int cr :: CV.int cp :: CV.int cdl :: CV.dat cps :: CV.dat css :: CV.bool cv :: CV.int p1 :: CV.int p2 :: CV.int p3 :: CV.int p4 :: CV.bool pf :: CV.int p6 :: CV.dat pw :: CV.dat ph :: CV.int q1 :: CV.int q2 :: CV.int q3 :: CV.int q4 :: CV.bool qf :: CV.int q6 :: CV.dat qw :: CV.dat qh :: CV.int r1 :: CV.int r2 :: CV.int r3 :: CV.int r4 :: CV.bool rf :: CV.int r6 :: CV.dat rw :: CV.dat rh :: CV.dat fl :: CV.dat wa :: CV.dat wb :: CV.dat wc :: CV.int now :: CV.int clk :: CV.bool rt :: CV.int st :: [])) (hf9 : (grOf (CV.int cn :: CV.int cr :: CV.int cp :: CV.int cdl :: CV.dat cps :: CV.dat css :: CV.bool cv :: CV.int p1 :: CV.int p2 :: CV.int p3 :: CV.int p4 :: CV.bool pf :: CV.int p6 :: CV.dat pw :: CV.dat ph :: CV.int q1 :: CV.int q2 :: CV.int q3 :: CV.int q4 :: CV.bool qf :: CV.int q6 :: CV.dat qw :: CV.dat qh :: CV.int r1 :: CV.int r2 :: CV.int r3 :: CV.int r4 :: CV.bool rf :: CV.int r6 :: CV.dat rw :: CV.dat rh :: CV.dat fl :: CV.dat wa :: CV.dat wb :: CV.dat wc :: CV.int now :: CV.int clk :: CV.bool rt :: CV.int st :: [])).flight.length ≤ 999000) (hr : (Sx.stepG (grOf (CV.int cn :: CV.int cr :: CV.int cp :: CV.int cdl :: CV.dat cps :: CV.dat css :: CV.bool cv :: CV.int p1 :: CV.int p2 :: CV.int p3 :: CV.int p4 :: CV.bool pf :: CV.int p6 :: CV.dat pw :: CV.dat ph :: CV.int q1 :: CV.int q2 :: CV.int q3 :: CV.int q4 :: CV.bool qf :: CV.int q6 :: CV.dat qw :: CV.dat qh :: CV.int r1 :: CV.int r2 :: CV.int r3 :: CV.int r4 :: CV.bool rf :: CV.int r6 :: CV.dat rw :: CV.dat rh :: CV.dat fl :: CV.dat wa :: CV.dat wb :: CV.dat wc :: CV.int now :: CV.int clk :: CV.bool rt :: CV.int st :: [])) ek 1 en ew).right = true) :
    Runs Try.prog ⟨w, H⟩ (stepL cn cr cp cdl cps css cv p1 p2 p3 p4 pf p6 pw ph q1 q2 q3 q4 qf q6 qw qh r1 r2 r3 r4 rf r6 rw rh fl wa wb wc now clk rt st ek en ew 1) (RetD w H fun ds => .agg (svOf ds 0 (Sx.stepG (grOf (CV.int cn :: CV.int cr :: CV.int cp :: CV.int cdl :: CV.dat cps :: CV.dat css :: CV.bool cv :: CV.int p1 :: CV.int p2 :: CV.int p3 :: CV.int p4 :: CV.bool pf :: CV.int p6 :: CV.dat pw :: CV.dat ph :: CV.int q1 :: CV.int q2 :: CV.int q3 :: CV.int q4 :: CV.bool qf :: CV.int q6 :: CV.dat qw :: CV.dat qh :: CV.int r1 :: CV.int r2 :: CV.int r3 :: CV.int r4 :: CV.bool rf :: CV.int r6 :: CV.dat rw :: CV.dat rh :: CV.dat fl :: CV.dat wa :: CV.dat wb :: CV.dat wc :: CV.int now :: CV.int clk :: CV.bool rt :: CV.int st :: [])) ek 1 en ew).cls)) := by
  have hRc := clk_right hR
  rw [grRight_eq] at hR
  obtain ⟨⟨hc1, hc2⟩, hp, hq, hr', ⟨hf, hfl⟩, ⟨ha, hal⟩, ⟨hb, hbl⟩, ⟨hcc, hcl⟩⟩ := hR
  have hp' := hp; have hq' := hq; have hr2 := hr'
  obtain ⟨hpw, hph, hpl, hpm⟩ := hp'
  obtain ⟨hqw, hqh, hql, hqm⟩ := hq'
  obtain ⟨hrw, hrh, hrl, hrm⟩ := hr2
  simp only at hpw hph hpl hpm hqw hqh hql hqm hrw hrh hrl hrm
  have lW := D.Is.length (α := Wr) wb
  have lW2 := rows_len (rows_of hb)
  have lF := D.Is.length (α := Msg) fl
  have f9 : (fl.to Msg).length ≤ 999000 := by rw [grOf_eq] at hf9; exact hf9
  have n7 : (7 : Int) ≠ 0 := by decide
  have nn : (0 : Int) ≤ 1 ∧ (1 : Int) < ((3 : Nat) : Int) := by omega
  apply exec_sound ctSOk 900
  rw [step1_go]
  refine ⟨n7, fun h0 => ?_, fun h0 => ⟨fun h1 => ?_, fun h1 => ⟨fun h2 => ?_, fun h2 => ⟨fun h6 => ?_, fun h6 => ?_⟩⟩⟩⟩
  · have h0 : Int.tmod ek 7 = 0 := of_decide_eq_true h0
    have e : Sx.stepG (grOf (CV.int cn :: CV.int cr :: CV.int cp :: CV.int cdl :: CV.dat cps :: CV.dat css :: CV.bool cv :: CV.int p1 :: CV.int p2 :: CV.int p3 :: CV.int p4 :: CV.bool pf :: CV.int p6 :: CV.dat pw :: CV.dat ph :: CV.int q1 :: CV.int q2 :: CV.int q3 :: CV.int q4 :: CV.bool qf :: CV.int q6 :: CV.dat qw :: CV.dat qh :: CV.int r1 :: CV.int r2 :: CV.int r3 :: CV.int r4 :: CV.bool rf :: CV.int r6 :: CV.dat rw :: CV.dat rh :: CV.dat fl :: CV.dat wa :: CV.dat wb :: CV.dat wc :: CV.int now :: CV.int clk :: CV.bool rt :: CV.int st :: [])) ek 1 en ew = issueG (grOf (CV.int cn :: CV.int cr :: CV.int cp :: CV.int cdl :: CV.dat cps :: CV.dat css :: CV.bool cv :: CV.int p1 :: CV.int p2 :: CV.int p3 :: CV.int p4 :: CV.bool pf :: CV.int p6 :: CV.dat pw :: CV.dat ph :: CV.int q1 :: CV.int q2 :: CV.int q3 :: CV.int q4 :: CV.bool qf :: CV.int q6 :: CV.dat qw :: CV.dat qh :: CV.int r1 :: CV.int r2 :: CV.int r3 :: CV.int r4 :: CV.bool rf :: CV.int r6 :: CV.dat rw :: CV.dat rh :: CV.dat fl :: CV.dat wa :: CV.dat wb :: CV.dat wc :: CV.int now :: CV.int (IntKind.i64.wrap (clk + 1)) :: CV.bool rt :: CV.int st :: [])) 1 := by rw [Sx.stepG, if_pos h0, clk_eq]
    rw [e] at hr ⊢
    rw [grOf_eq] at hr ⊢
    simp only [issueG, tri_0, tri_1, tri_2, tri_upd0, tri_upd1, tri_upd2, Bool.and_eq_true] at hr
    simp only [issueG, tri_0, tri_1, tri_2, tri_upd0, tri_upd1, tri_upd2, cls_tri]
    obtain ⟨hrt, hlen⟩ := hr
    have hrow : SRows Wr (List.append (D.rows wb) [[.int .i64 (IntKind.i64.wrap (clk + 1)), .int .i64 0, .int .i64 0, .int .i64 0]]) (wb.to Wr ++ [⟨IntKind.i64.wrap (clk + 1), 0, 0, 0⟩]) := rows_app (rows_of hb) (rows_one ⟨_, _, _, _, rfl⟩ rfl)
    refine ⟨nn, hq, fun hs => ⟨nn, fun _ => ⟨nn, fun hs1 => ⟨nn, ⟨rfl, hb.fits, by simp only [len_slc, List.length_nil]; omega, by simp only [len_slc, List.length_nil]; omega⟩, ⟨rfl, .inr rfl, ?_, ?_⟩, nn, ?_⟩⟩, fun h => absurd (hrt.symm.trans h) (by decide)⟩⟩
    · have e1 : (List.append (D.rows (D.slc (D.hd (hs1 1 0)) 4 [])) (D.rows wb)).length = (D.rows wb).length := rfl
      simp only [len_slc, e1, List.length_cons, List.length_nil]; omega
    · have e1 : (List.append (D.rows (D.slc (D.hd (hs1 1 0)) 4 [])) (D.rows wb)).length = (D.rows wb).length := rfl
      simp only [len_slc, e1, List.length_cons, List.length_nil]; omega
    · refine ret_cells ?_
      repeat' first
      | exact .nil
      | refine .cons ?_ ?_
      | exact rfl
      | exact fun _ => rfl
      | exact lst_ok stands_like
      | exact lst_ok (stands_self (by assumption))
      | exact lst_ok (stands_rows rfl hrow)
      | exact bool_ok (issue_bool hrt lW)
      | fail
  · have h1 : Int.tmod ek 7 = 1 := of_decide_eq_true h1
    have e : Sx.stepG (grOf (CV.int cn :: CV.int cr :: CV.int cp :: CV.int cdl :: CV.dat cps :: CV.dat css :: CV.bool cv :: CV.int p1 :: CV.int p2 :: CV.int p3 :: CV.int p4 :: CV.bool pf :: CV.int p6 :: CV.dat pw :: CV.dat ph :: CV.int q1 :: CV.int q2 :: CV.int q3 :: CV.int q4 :: CV.bool qf :: CV.int q6 :: CV.dat qw :: CV.dat qh :: CV.int r1 :: CV.int r2 :: CV.int r3 :: CV.int r4 :: CV.bool rf :: CV.int r6 :: CV.dat rw :: CV.dat rh :: CV.dat fl :: CV.dat wa :: CV.dat wb :: CV.dat wc :: CV.int now :: CV.int clk :: CV.bool rt :: CV.int st :: [])) ek 1 en ew = durG (grOf (CV.int cn :: CV.int cr :: CV.int cp :: CV.int cdl :: CV.dat cps :: CV.dat css :: CV.bool cv :: CV.int p1 :: CV.int p2 :: CV.int p3 :: CV.int p4 :: CV.bool pf :: CV.int p6 :: CV.dat pw :: CV.dat ph :: CV.int q1 :: CV.int q2 :: CV.int q3 :: CV.int q4 :: CV.bool qf :: CV.int q6 :: CV.dat qw :: CV.dat qh :: CV.int r1 :: CV.int r2 :: CV.int r3 :: CV.int r4 :: CV.bool rf :: CV.int r6 :: CV.dat rw :: CV.dat rh :: CV.dat fl :: CV.dat wa :: CV.dat wb :: CV.dat wc :: CV.int now :: CV.int (IntKind.i64.wrap (clk + 1)) :: CV.bool rt :: CV.int st :: [])) 1 ew := by rw [Sx.stepG, if_neg (tmod7 h1 (by decide)), if_pos h1, clk_eq]
    rw [e] at hr ⊢
    refine ⟨⟨hRc, hew, hr⟩, fun hs1 => ?_⟩
    exact ret_D (P := Try.prog) (w := w) (H := H) (v := .agg (svOf (hs1 0) 0 (durG (grOf (CV.int cn :: CV.int cr :: CV.int cp :: CV.int cdl :: CV.dat cps :: CV.dat css :: CV.bool cv :: CV.int p1 :: CV.int p2 :: CV.int p3 :: CV.int p4 :: CV.bool pf :: CV.int p6 :: CV.dat pw :: CV.dat ph :: CV.int q1 :: CV.int q2 :: CV.int q3 :: CV.int q4 :: CV.bool qf :: CV.int q6 :: CV.dat qw :: CV.dat qh :: CV.int r1 :: CV.int r2 :: CV.int r3 :: CV.int r4 :: CV.bool rf :: CV.int r6 :: CV.dat rw :: CV.dat rh :: CV.dat fl :: CV.dat wa :: CV.dat wb :: CV.dat wc :: CV.int now :: CV.int (IntKind.i64.wrap (clk + 1)) :: CV.bool rt :: CV.int st :: [])) 1 ew).cls)) (g := fun ds => .agg (svOf ds 0 (durG (grOf (CV.int cn :: CV.int cr :: CV.int cp :: CV.int cdl :: CV.dat cps :: CV.dat css :: CV.bool cv :: CV.int p1 :: CV.int p2 :: CV.int p3 :: CV.int p4 :: CV.bool pf :: CV.int p6 :: CV.dat pw :: CV.dat ph :: CV.int q1 :: CV.int q2 :: CV.int q3 :: CV.int q4 :: CV.bool qf :: CV.int q6 :: CV.dat qw :: CV.dat qh :: CV.int r1 :: CV.int r2 :: CV.int r3 :: CV.int r4 :: CV.bool rf :: CV.int r6 :: CV.dat rw :: CV.dat rh :: CV.dat fl :: CV.dat wa :: CV.dat wb :: CV.dat wc :: CV.int now :: CV.int (IntKind.i64.wrap (clk + 1)) :: CV.bool rt :: CV.int st :: [])) 1 ew).cls)) (hs1 0) (fun _ _ => rfl) (fun _ h => h)
  · have h2 : Int.tmod ek 7 = 2 := of_decide_eq_true h2
    have e : Sx.stepG (grOf (CV.int cn :: CV.int cr :: CV.int cp :: CV.int cdl :: CV.dat cps :: CV.dat css :: CV.bool cv :: CV.int p1 :: CV.int p2 :: CV.int p3 :: CV.int p4 :: CV.bool pf :: CV.int p6 :: CV.dat pw :: CV.dat ph :: CV.int q1 :: CV.int q2 :: CV.int q3 :: CV.int q4 :: CV.bool qf :: CV.int q6 :: CV.dat qw :: CV.dat qh :: CV.int r1 :: CV.int r2 :: CV.int r3 :: CV.int r4 :: CV.bool rf :: CV.int r6 :: CV.dat rw :: CV.dat rh :: CV.dat fl :: CV.dat wa :: CV.dat wb :: CV.dat wc :: CV.int now :: CV.int clk :: CV.bool rt :: CV.int st :: [])) ek 1 en ew = roundG (grOf (CV.int cn :: CV.int cr :: CV.int cp :: CV.int cdl :: CV.dat cps :: CV.dat css :: CV.bool cv :: CV.int p1 :: CV.int p2 :: CV.int p3 :: CV.int p4 :: CV.bool pf :: CV.int p6 :: CV.dat pw :: CV.dat ph :: CV.int q1 :: CV.int q2 :: CV.int q3 :: CV.int q4 :: CV.bool qf :: CV.int q6 :: CV.dat qw :: CV.dat qh :: CV.int r1 :: CV.int r2 :: CV.int r3 :: CV.int r4 :: CV.bool rf :: CV.int r6 :: CV.dat rw :: CV.dat rh :: CV.dat fl :: CV.dat wa :: CV.dat wb :: CV.dat wc :: CV.int now :: CV.int (IntKind.i64.wrap (clk + 1)) :: CV.bool rt :: CV.int st :: [])) := by rw [Sx.stepG, if_neg (tmod7 h2 (by decide)), if_neg (tmod7 h2 (by decide)), if_pos h2, clk_eq]
    rw [e] at hr ⊢
    rw [grOf_eq] at hr ⊢
    obtain ⟨s1, s2, s3, s4⟩ := startCo_len ⟨cn, cr, cp, cdl, cps.to Int, css.to Bool, cv⟩ now 20
    refine ⟨⟨hc1, hc2⟩, fun hs => ⟨fun hx => ?_, fun hx => ?_⟩⟩
    · have hx : ¬(startCo ⟨cn, cr, cp, cdl, cps.to Int, css.to Bool, cv⟩ now 20).2.2 = 0 := by simp only [bne_iff_ne, ne_eq] at hx; exact hx
      rw [roundG] at hr ⊢
      simp only at hr ⊢
      rw [if_pos hx] at hr ⊢
      simp only [Bool.and_eq_true] at hr
      obtain ⟨hrt, hbz⟩ := hr
      refine ⟨fun _ => ?_, fun h => absurd (hrt.symm.trans h) (by decide)⟩
      rw [cls_tri]
      refine ret_cells ?_
      repeat' first
      | exact .nil
      | refine .cons ?_ ?_
      | exact rfl
      | exact fun _ => rfl
      | exact lst_ok stands_like
      | exact lst_ok (stands_self (by assumption))
      | exact bool_ok (by rw [hrt, Bool.true_and]; rfl)
      | fail
    · have hx : (startCo ⟨cn, cr, cp, cdl, cps.to Int, css.to Bool, cv⟩ now 20).2.2 = 0 := by simp only [bne_eq_false_iff_eq] at hx; exact hx
      rw [roundG] at hr ⊢
      simp only at hr ⊢
      rw [if_neg (not_not_intro hx)] at hr ⊢
      simp only [sendG] at hr ⊢
      refine ⟨⟨hf, by omega, D.like_is _ _, ?_⟩, fun hs1 => ?_⟩
      · rw [like_len]; exact Nat.le_trans s3 (by omega)
      rw [cls_tri]
      refine ret_cells ?_
      repeat' first
      | exact .nil
      | refine .cons ?_ ?_
      | exact rfl
      | exact fun _ => rfl
      | exact lst_ok stands_like
      | exact lst_ok (stands_self (by assumption))
      | exact lst_ok (by rw [D.like_to]; exact stands_like)
      | fail
  · have h6 : Int.tmod ek 7 = 6 := of_decide_eq_true h6
    have e : Sx.stepG (grOf (CV.int cn :: CV.int cr :: CV.int cp :: CV.int cdl :: CV.dat cps :: CV.dat css :: CV.bool cv :: CV.int p1 :: CV.int p2 :: CV.int p3 :: CV.int p4 :: CV.bool pf :: CV.int p6 :: CV.dat pw :: CV.dat ph :: CV.int q1 :: CV.int q2 :: CV.int q3 :: CV.int q4 :: CV.bool qf :: CV.int q6 :: CV.dat qw :: CV.dat qh :: CV.int r1 :: CV.int r2 :: CV.int r3 :: CV.int r4 :: CV.bool rf :: CV.int r6 :: CV.dat rw :: CV.dat rh :: CV.dat fl :: CV.dat wa :: CV.dat wb :: CV.dat wc :: CV.int now :: CV.int clk :: CV.bool rt :: CV.int st :: [])) ek 1 en ew = tickG (grOf (CV.int cn :: CV.int cr :: CV.int cp :: CV.int cdl :: CV.dat cps :: CV.dat css :: CV.bool cv :: CV.int p1 :: CV.int p2 :: CV.int p3 :: CV.int p4 :: CV.bool pf :: CV.int p6 :: CV.dat pw :: CV.dat ph :: CV.int q1 :: CV.int q2 :: CV.int q3 :: CV.int q4 :: CV.bool qf :: CV.int q6 :: CV.dat qw :: CV.dat qh :: CV.int r1 :: CV.int r2 :: CV.int r3 :: CV.int r4 :: CV.bool rf :: CV.int r6 :: CV.dat rw :: CV.dat rh :: CV.dat fl :: CV.dat wa :: CV.dat wb :: CV.dat wc :: CV.int now :: CV.int (IntKind.i64.wrap (clk + 1)) :: CV.bool rt :: CV.int st :: [])) en ew := by rw [Sx.stepG, if_neg (tmod7 h6 (by decide)), if_neg (tmod7 h6 (by decide)), if_neg (tmod7 h6 (by decide)), if_pos h6, clk_eq]
    rw [e] at hr ⊢
    refine ⟨⟨hRc, ⟨⟨hen, hew⟩, f9⟩, hr⟩, fun hs1 => ?_⟩
    exact ret_D (P := Try.prog) (w := w) (H := H) (v := .agg (svOf (hs1 0) 0 (tickG (grOf (CV.int cn :: CV.int cr :: CV.int cp :: CV.int cdl :: CV.dat cps :: CV.dat css :: CV.bool cv :: CV.int p1 :: CV.int p2 :: CV.int p3 :: CV.int p4 :: CV.bool pf :: CV.int p6 :: CV.dat pw :: CV.dat ph :: CV.int q1 :: CV.int q2 :: CV.int q3 :: CV.int q4 :: CV.bool qf :: CV.int q6 :: CV.dat qw :: CV.dat qh :: CV.int r1 :: CV.int r2 :: CV.int r3 :: CV.int r4 :: CV.bool rf :: CV.int r6 :: CV.dat rw :: CV.dat rh :: CV.dat fl :: CV.dat wa :: CV.dat wb :: CV.dat wc :: CV.int now :: CV.int (IntKind.i64.wrap (clk + 1)) :: CV.bool rt :: CV.int st :: [])) en ew).cls)) (g := fun ds => .agg (svOf ds 0 (tickG (grOf (CV.int cn :: CV.int cr :: CV.int cp :: CV.int cdl :: CV.dat cps :: CV.dat css :: CV.bool cv :: CV.int p1 :: CV.int p2 :: CV.int p3 :: CV.int p4 :: CV.bool pf :: CV.int p6 :: CV.dat pw :: CV.dat ph :: CV.int q1 :: CV.int q2 :: CV.int q3 :: CV.int q4 :: CV.bool qf :: CV.int q6 :: CV.dat qw :: CV.dat qh :: CV.int r1 :: CV.int r2 :: CV.int r3 :: CV.int r4 :: CV.bool rf :: CV.int r6 :: CV.dat rw :: CV.dat rh :: CV.dat fl :: CV.dat wa :: CV.dat wb :: CV.dat wc :: CV.int now :: CV.int (IntKind.i64.wrap (clk + 1)) :: CV.bool rt :: CV.int st :: [])) en ew).cls)) (hs1 0) (fun _ _ => rfl) (fun _ h => h)
  · have h0 : ¬Int.tmod ek 7 = 0 := of_decide_eq_false h0
    have h1 : ¬Int.tmod ek 7 = 1 := of_decide_eq_false h1
    have h2 : ¬Int.tmod ek 7 = 2 := of_decide_eq_false h2
    have h6 : ¬Int.tmod ek 7 = 6 := of_decide_eq_false h6
    have e : Sx.stepG (grOf (CV.int cn :: CV.int cr :: CV.int cp :: CV.int cdl :: CV.dat cps :: CV.dat css :: CV.bool cv :: CV.int p1 :: CV.int p2 :: CV.int p3 :: CV.int p4 :: CV.bool pf :: CV.int p6 :: CV.dat pw :: CV.dat ph :: CV.int q1 :: CV.int q2 :: CV.int q3 :: CV.int q4 :: CV.bool qf :: CV.int q6 :: CV.dat qw :: CV.dat qh :: CV.int r1 :: CV.int r2 :: CV.int r3 :: CV.int r4 :: CV.bool rf :: CV.int r6 :: CV.dat rw :: CV.dat rh :: CV.dat fl :: CV.dat wa :: CV.dat wb :: CV.dat wc :: CV.int now :: CV.int clk :: CV.bool rt :: CV.int st :: [])) ek 1 en ew = flightG (grOf (CV.int cn :: CV.int cr :: CV.int cp :: CV.int cdl :: CV.dat cps :: CV.dat css :: CV.bool cv :: CV.int p1 :: CV.int p2 :: CV.int p3 :: CV.int p4 :: CV.bool pf :: CV.int p6 :: CV.dat pw :: CV.dat ph :: CV.int q1 :: CV.int q2 :: CV.int q3 :: CV.int q4 :: CV.bool qf :: CV.int q6 :: CV.dat qw :: CV.dat qh :: CV.int r1 :: CV.int r2 :: CV.int r3 :: CV.int r4 :: CV.bool rf :: CV.int r6 :: CV.dat rw :: CV.dat rh :: CV.dat fl :: CV.dat wa :: CV.dat wb :: CV.dat wc :: CV.int now :: CV.int (IntKind.i64.wrap (clk + 1)) :: CV.bool rt :: CV.int st :: [])) ek ew := by rw [Sx.stepG, if_neg h0, if_neg h1, if_neg h2, if_neg h6, clk_eq]
    rw [e] at hr ⊢
    refine ⟨⟨hRc, ⟨hek, hew⟩, hr⟩, fun hs1 => ?_⟩
    exact ret_D (P := Try.prog) (w := w) (H := H) (v := .agg (svOf (hs1 0) 0 (flightG (grOf (CV.int cn :: CV.int cr :: CV.int cp :: CV.int cdl :: CV.dat cps :: CV.dat css :: CV.bool cv :: CV.int p1 :: CV.int p2 :: CV.int p3 :: CV.int p4 :: CV.bool pf :: CV.int p6 :: CV.dat pw :: CV.dat ph :: CV.int q1 :: CV.int q2 :: CV.int q3 :: CV.int q4 :: CV.bool qf :: CV.int q6 :: CV.dat qw :: CV.dat qh :: CV.int r1 :: CV.int r2 :: CV.int r3 :: CV.int r4 :: CV.bool rf :: CV.int r6 :: CV.dat rw :: CV.dat rh :: CV.dat fl :: CV.dat wa :: CV.dat wb :: CV.dat wc :: CV.int now :: CV.int (IntKind.i64.wrap (clk + 1)) :: CV.bool rt :: CV.int st :: [])) ek ew).cls)) (g := fun ds => .agg (svOf ds 0 (flightG (grOf (CV.int cn :: CV.int cr :: CV.int cp :: CV.int cdl :: CV.dat cps :: CV.dat css :: CV.bool cv :: CV.int p1 :: CV.int p2 :: CV.int p3 :: CV.int p4 :: CV.bool pf :: CV.int p6 :: CV.dat pw :: CV.dat ph :: CV.int q1 :: CV.int q2 :: CV.int q3 :: CV.int q4 :: CV.bool qf :: CV.int q6 :: CV.dat qw :: CV.dat qh :: CV.int r1 :: CV.int r2 :: CV.int r3 :: CV.int r4 :: CV.bool rf :: CV.int r6 :: CV.dat rw :: CV.dat rh :: CV.dat fl :: CV.dat wa :: CV.dat wb :: CV.dat wc :: CV.int now :: CV.int (IntKind.i64.wrap (clk + 1)) :: CV.bool rt :: CV.int st :: [])) ek ew).cls)) (hs1 0) (fun _ _ => rfl) (fun _ h => h)

theorem step2_run {w : World} {H : HV} {cn cr cp cdl : Int} {cps css : D} {cv : Bool} {p1 p2 p3 p4 : Int} {pf : Bool} {p6 : Int} {pw ph : D} {q1 q2 q3 q4 : Int} {qf : Bool} {q6 : Int} {qw qh : D} {r1 r2 r3 r4 : Int} {rf : Bool} {r6 : Int} {rw rh : D} {fl wa wb wc : D} {now clk : Int} {rt : Bool} {st : Int} {ek en ew : Int} (hek : U8 ek) (hen : U8 en) (hew : U8 ew) (hR : GrRight (CV.int cn :: CV.int cr :: CV.int cp :: CV.int cdl :: CV.dat cps :: CV.dat css :: CV.bool cv :: CV.int p1 :: CV.int p2 :: CV.int p3 :: CV.int p4 :: CV.bool pf :: CV.int p6 :: CV.dat pw :: CV.dat ph :: CV.int q1 :: CV.int q2 :: CV.int q3 :: CV.int q4 :: CV.bool qf :: CV.int q6 :: CV.dat qw :: CV.dat qh :: CV.int r1 :: CV.int r2 :: CV.int r3 :: CV.int r4 :: CV.bool rf :: CV.int r6 :: CV.dat rw :: CV.dat rh :: CV.dat fl :: CV.dat wa :: CV.dat wb :: CV.dat wc :: CV.int now :: CV.int clk :: CV.bool rt :: CV.int st :: [])) (hf9 : (grOf (CV.int cn :: CV.int cr :: CV.int cp :: CV.int cdl :: CV.dat cps :: CV.dat css :: CV.bool cv :: CV.int p1 :: CV.int p2 :: CV.int p3 :: CV.int p4 :: CV.bool pf :: CV.int p6 :: CV.dat pw :: CV.dat ph :: CV.int q1 :: CV.int q2 :: CV.int q3 :: CV.int q4 :: CV.bool qf :: CV.int q6 :: CV.dat qw :: CV.dat qh :: CV.int r1 :: CV.int r2 :: CV.int r3 :: CV.int r4 :: CV.bool rf :: CV.int r6 :: CV.dat rw :: CV.dat rh :: CV.dat fl :: CV.dat wa :: CV.dat wb :: CV.dat wc :: CV.int now :: CV.int clk :: CV.bool rt :: CV.int st :: [])).flight.length ≤ 999000) (hr : (Sx.stepG (grOf (CV.int cn :: CV.int cr :: CV.int cp :: CV.int cdl :: CV.dat cps :: CV.dat css :: CV.bool cv :: CV.int p1 :: CV.int p2 :: CV.int p3 :: CV.int p4 :: CV.bool pf :: CV.int p6 :: CV.dat pw :: CV.dat ph :: CV.int q1 :: CV.int q2 :: CV.int q3 :: CV.int q4 :: CV.bool qf :: CV.int q6 :: CV.dat qw :: CV.dat qh :: CV.int r1 :: CV.int r2 :: CV.int r3 :: CV.int r4 :: CV.bool rf :: CV.int r6 :: CV.dat rw :: CV.dat rh :: CV.dat fl :: CV.dat wa :: CV.dat wb :: CV.dat wc :: CV.int now :: CV.int clk :: CV.bool rt :: CV.int st :: [])) ek 2 en ew).right = true) :
    Runs Try.prog ⟨w, H⟩ (stepL cn cr cp cdl cps css cv p1 p2 p3 p4 pf p6 pw ph q1 q2 q3 q4 qf q6 qw qh r1 r2 r3 r4 rf r6 rw rh fl wa wb wc now clk rt st ek en ew 2) (RetD w H fun ds => .agg (svOf ds 0 (Sx.stepG (grOf (CV.int cn :: CV.int cr :: CV.int cp :: CV.int cdl :: CV.dat cps :: CV.dat css :: CV.bool cv :: CV.int p1 :: CV.int p2 :: CV.int p3 :: CV.int p4 :: CV.bool pf :: CV.int p6 :: CV.dat pw :: CV.dat ph :: CV.int q1 :: CV.int q2 :: CV.int q3 :: CV.int q4 :: CV.bool qf :: CV.int q6 :: CV.dat qw :: CV.dat qh :: CV.int r1 :: CV.int r2 :: CV.int r3 :: CV.int r4 :: CV.bool rf :: CV.int r6 :: CV.dat rw :: CV.dat rh :: CV.dat fl :: CV.dat wa :: CV.dat wb :: CV.dat wc :: CV.int now :: CV.int clk :: CV.bool rt :: CV.int st :: [])) ek 2 en ew).cls)) := by
  have hRc := clk_right hR
  rw [grRight_eq] at hR
  obtain ⟨⟨hc1, hc2⟩, hp, hq, hr', ⟨hf, hfl⟩, ⟨ha, hal⟩, ⟨hb, hbl⟩, ⟨hcc, hcl⟩⟩ := hR
  have hp' := hp; have hq' := hq; have hr2 := hr'
  obtain ⟨hpw, hph, hpl, hpm⟩ := hp'
  obtain ⟨hqw, hqh, hql, hqm⟩ := hq'
  obtain ⟨hrw, hrh, hrl, hrm⟩ := hr2
  simp only at hpw hph hpl hpm hqw hqh hql hqm hrw hrh hrl hrm
  have lW := D.Is.length (α := Wr) wc
  have lW2 := rows_len (rows_of hcc)
  have lF := D.Is.length (α := Msg) fl
  have f9 : (fl.to Msg).length ≤ 999000 := by rw [grOf_eq] at hf9; exact hf9
  have n7 : (7 : Int) ≠ 0 := by decide
  have nn : (0 : Int) ≤ 2 ∧ (2 : Int) < ((3 : Nat) : Int) := by omega
  apply exec_sound ctSOk 900
  rw [step2_go]
  refine ⟨n7, fun h0 => ?_, fun h0 => ⟨fun h1 => ?_, fun h1 => ⟨fun h2 => ?_, fun h2 => ⟨fun h6 => ?_, fun h6 => ?_⟩⟩⟩⟩
  · have h0 : Int.tmod ek 7 = 0 := of_decide_eq_true h0
    have e : Sx.stepG (grOf (CV.int cn :: CV.int cr :: CV.int cp :: CV.int cdl :: CV.dat cps :: CV.dat css :: CV.bool cv :: CV.int p1 :: CV.int p2 :: CV.int p3 :: CV.int p4 :: CV.bool pf :: CV.int p6 :: CV.dat pw :: CV.dat ph :: CV.int q1 :: CV.int q2 :: CV.int q3 :: CV.int q4 :: CV.bool qf :: CV.int q6 :: CV.dat qw :: CV.dat qh :: CV.int r1 :: CV.int r2 :: CV.int r3 :: CV.int r4 :: CV.bool rf :: CV.int r6 :: CV.dat rw :: CV.dat rh :: CV.dat fl :: CV.dat wa :: CV.dat wb :: CV.dat wc :: CV.int now :: CV.int clk :: CV.bool rt :: CV.int st :: [])) ek 2 en ew = issueG (grOf (CV.int cn :: CV.int cr :: CV.int cp :: CV.int cdl :: CV.dat cps :: CV.dat css :: CV.bool cv :: CV.int p1 :: CV.int p2 :: CV.int p3 :: CV.int p4 :: CV.bool pf :: CV.int p6 :: CV.dat pw :: CV.dat ph :: CV.int q1 :: CV.int q2 :: CV.int q3 :: CV.int q4 :: CV.bool qf :: CV.int q6 :: CV.dat qw :: CV.dat qh :: CV.int r1 :: CV.int r2 :: CV.int r3 :: CV.int r4 :: CV.bool rf :: CV.int r6 :: CV.dat rw :: CV.dat rh :: CV.dat fl :: CV.dat wa :: CV.dat wb :: CV.dat wc :: CV.int now :: CV.int (IntKind.i64.wrap (clk + 1)) :: CV.bool rt :: CV.int st :: [])) 2 := by rw [Sx.stepG, if_pos h0, clk_eq]
    rw [e] at hr ⊢
    rw [grOf_eq] at hr ⊢
    simp only [issueG, tri_0, tri_1, tri_2, tri_upd0, tri_upd1, tri_upd2, Bool.and_eq_true] at hr
    simp only [issueG, tri_0, tri_1, tri_2, tri_upd0, tri_upd1, tri_upd2, cls_tri]
    obtain ⟨hrt, hlen⟩ := hr
    have hrow : SRows Wr (List.append (D.rows wc) [[.int .i64 (IntKind.i64.wrap (clk + 1)), .int .i64 0, .int .i64 0, .int .i64 0]]) (wc.to Wr ++ [⟨IntKind.i64.wrap (clk + 1), 0, 0, 0⟩]) := rows_app (rows_of hcc) (rows_one ⟨_, _, _, _, rfl⟩ rfl)
    refine ⟨nn, hr', fun hs => ⟨nn, fun _ => ⟨nn, fun hs1 => ⟨nn, ⟨rfl, hcc.fits, by simp only [len_slc, List.length_nil]; omega, by simp only [len_slc, List.length_nil]; omega⟩, ⟨rfl, .inr rfl, ?_, ?_⟩, nn, ?_⟩⟩, fun h => absurd (hrt.symm.trans h) (by decide)⟩⟩
    · have e1 : (List.append (D.rows (D.slc (D.hd (hs1 1 0)) 4 [])) (D.rows wc)).length = (D.rows wc).length := rfl
      simp only [len_slc, e1, List.length_cons, List.length_nil]; omega
    · have e1 : (List.append (D.rows (D.slc (D.hd (hs1 1 0)) 4 [])) (D.rows wc)).length = (D.rows wc).length := rfl
      simp only [len_slc, e1, List.length_cons, List.length_nil]; omega
    · refine ret_cells ?_
      repeat' first
      | exact .nil
      | refine .cons ?_ ?_
      | exact rfl
      | exact fun _ => rfl
      | exact lst_ok stands_like
      | exact lst_ok (stands_self (by assumption))
      | exact lst_ok (stands_rows rfl hrow)
      | exact bool_ok (issue_bool hrt lW)
      | fail
  · have h1 : Int.tmod ek 7 = 1 := of_decide_eq_true h1
    have e : Sx.stepG (grOf (CV.int cn :: CV.int cr :: CV.int cp :: CV.int cdl :: CV.dat cps :: CV.dat css :: CV.bool cv :: CV.int p1 :: CV.int p2 :: CV.int p3 :: CV.int p4 :: CV.bool pf :: CV.int p6 :: CV.dat pw :: CV.dat ph :: CV.int q1 :: CV.int q2 :: CV.int q3 :: CV.int q4 :: CV.bool qf :: CV.int q6 :: CV.dat qw :: CV.dat qh :: CV.int r1 :: CV.int r2 :: CV.int r3 :: CV.int r4 :: CV.bool rf :: CV.int r6 :: CV.dat rw :: CV.dat rh :: CV.dat fl :: CV.dat wa :: CV.dat wb :: CV.dat wc :: CV.int now :: CV.int clk :: CV.bool rt :: CV.int st :: [])) ek 2 en ew = durG (grOf (CV.int cn :: CV.int cr :: CV.int cp :: CV.int cdl :: CV.dat cps :: CV.dat css :: CV.bool cv :: CV.int p1 :: CV.int p2 :: CV.int p3 :: CV.int p4 :: CV.bool pf :: CV.int p6 :: CV.dat pw :: CV.dat ph :: CV.int q1 :: CV.int q2 :: CV.int q3 :: CV.int q4 :: CV.bool qf :: CV.int q6 :: CV.dat qw :: CV.dat qh :: CV.int r1 :: CV.int r2 :: CV.int r3 :: CV.int r4 :: CV.bool rf :: CV.int r6 :: CV.dat rw :: CV.dat rh :: CV.dat fl :: CV.dat wa :: CV.dat wb :: CV.dat wc :: CV.int now :: CV.int (IntKind.i64.wrap (clk + 1)) :: CV.bool rt :: CV.int st :: [])) 2 ew := by rw [Sx.stepG, if_neg (tmod7 h1 (by decide)), if_pos h1, clk_eq]
    rw [e] at hr ⊢
    refine ⟨⟨hRc, hew, hr⟩, fun hs1 => ?_⟩
    exact ret_D (P := Try.prog) (w := w) (H := H) (v := .agg (svOf (hs1 0) 0 (durG (grOf (CV.int cn :: CV.int cr :: CV.int cp :: CV.int cdl :: CV.dat cps :: CV.dat css :: CV.bool cv :: CV.int p1 :: CV.int p2 :: CV.int p3 :: CV.int p4 :: CV.bool pf :: CV.int p6 :: CV.dat pw :: CV.dat ph :: CV.int q1 :: CV.int q2 :: CV.int q3 :: CV.int q4 :: CV.bool qf :: CV.int q6 :: CV.dat qw :: CV.dat qh :: CV.int r1 :: CV.int r2 :: CV.int r3 :: CV.int r4 :: CV.bool rf :: CV.int r6 :: CV.dat rw :: CV.dat rh :: CV.dat fl :: CV.dat wa :: CV.dat wb :: CV.dat wc :: CV.int now :: CV.int (IntKind.i64.wrap (clk + 1)) :: CV.bool rt :: CV.int st :: [])) 2 ew).cls)) (g := fun ds => .agg (svOf ds 0 (durG (grOf (CV.int cn :: CV.int cr :: CV.int cp :: CV.int cdl :: CV.dat cps :: CV.dat css :: CV.bool cv :: CV.int p1 :: CV.int p2 :: CV.int p3 :: CV.int p4 :: CV.bool pf :: CV.int p6 :: CV.dat pw :: CV.dat ph :: CV.int q1 :: CV.int q2 :: CV.int q3 :: CV.int q4 :: CV.bool qf :: CV.int q6 :: CV.dat qw :: CV.dat qh :: CV.int r1 :: CV.int r2 :: CV.int r3 :: CV.int r4 :: CV.bool rf :: CV.int r6 :: CV.dat rw :: CV.dat rh :: CV.dat fl :: CV.dat wa :: CV.dat wb :: CV.dat wc :: CV.int now :: CV.int (IntKind.i64.wrap (clk + 1)) :: CV.bool rt :: CV.int st :: [])) 2 ew).cls)) (hs1 0) (fun _ _ => rfl) (fun _ h => h)
  · have h2 : Int.tmod ek 7 = 2 := of_decide_eq_true h2
    have e : Sx.stepG (grOf (CV.int cn :: CV.int cr :: CV.int cp :: CV.int cdl :: CV.dat cps :: CV.dat css :: CV.bool cv :: CV.int p1 :: CV.int p2 :: CV.int p3 :: CV.int p4 :: CV.bool pf :: CV.int p6 :: CV.dat pw :: CV.dat ph :: CV.int q1 :: CV.int q2 :: CV.int q3 :: CV.int q4 :: CV.bool qf :: CV.int q6 :: CV.dat qw :: CV.dat qh :: CV.int r1 :: CV.int r2 :: CV.int r3 :: CV.int r4 :: CV.bool rf :: CV.int r6 :: CV.dat rw :: CV.dat rh :: CV.dat fl :: CV.dat wa :: CV.dat wb :: CV.dat wc :: CV.int now :: CV.int clk :: CV.bool rt :: CV.int st :: [])) ek 2 en ew = roundG (grOf (CV.int cn :: CV.int cr :: CV.int cp :: CV.int cdl :: CV.dat cps :: CV.dat css :: CV.bool cv :: CV.int p1 :: CV.int p2 :: CV.int p3 :: CV.int p4 :: CV.bool pf :: CV.int p6 :: CV.dat pw :: CV.dat ph :: CV.int q1 :: CV.int q2 :: CV.int q3 :: CV.int q4 :: CV.bool qf :: CV.int q6 :: CV.dat qw :: CV.dat qh :: CV.int r1 :: CV.int r2 :: CV.int r3 :: CV.int r4 :: CV.bool rf :: CV.int r6 :: CV.dat rw :: CV.dat rh :: CV.dat fl :: CV.dat wa :: CV.dat wb :: CV.dat wc :: CV.int now :: CV.int (IntKind.i64.wrap (clk + 1)) :: CV.bool rt :: CV.int st :: [])) := by rw [Sx.stepG, if_neg (tmod7 h2 (by decide)), if_neg (tmod7 h2 (by decide)), if_pos h2, clk_eq]
    rw [e] at hr ⊢
    rw [grOf_eq] at hr ⊢
    obtain ⟨s1, s2, s3, s4⟩ := startCo_len ⟨cn, cr, cp, cdl, cps.to Int, css.to Bool, cv⟩ now 20
    refine ⟨⟨hc1, hc2⟩, fun hs => ⟨fun hx => ?_, fun hx => ?_⟩⟩
    · have hx : ¬(startCo ⟨cn, cr, cp, cdl, cps.to Int, css.to Bool, cv⟩ now 20).2.2 = 0 := by simp only [bne_iff_ne, ne_eq] at hx; exact hx
      rw [roundG] at hr ⊢
      simp only at hr ⊢
      rw [if_pos hx] at hr ⊢
      simp only [Bool.and_eq_true] at hr
      obtain ⟨hrt, hbz⟩ := hr
      refine ⟨fun _ => ?_, fun h => absurd (hrt.symm.trans h) (by decide)⟩
      rw [cls_tri]
      refine ret_cells ?_
      repeat' first
      | exact .nil
      | refine .cons ?_ ?_
      | exact rfl
      | exact fun _ => rfl
      | exact lst_ok stands_like
      | exact lst_ok (stands_self (by assumption))
      | exact bool_ok (by rw [hrt, Bool.true_and]; rfl)
      | fail
    · have hx : (startCo ⟨cn, cr, cp, cdl, cps.to Int, css.to Bool, cv⟩ now 20).2.2 = 0 := by simp only [bne_eq_false_iff_eq] at hx; exact hx
      rw [roundG] at hr ⊢
      simp only at hr ⊢
      rw [if_neg (not_not_intro hx)] at hr ⊢
      simp only [sendG] at hr ⊢
      refine ⟨⟨hf, by omega, D.like_is _ _, ?_⟩, fun hs1 => ?_⟩
      · rw [like_len]; exact Nat.le_trans s3 (by omega)
      rw [cls_tri]
      refine ret_cells ?_
      repeat' first
      | exact .nil
      | refine .cons ?_ ?_
      | exact rfl
      | exact fun _ => rfl
      | exact lst_ok stands_like
      | exact lst_ok (stands_self (by assumption))
      | exact lst_ok (by rw [D.like_to]; exact stands_like)
      | fail
  · have h6 : Int.tmod ek 7 = 6 := of_decide_eq_true h6
    have e : Sx.stepG (grOf (CV.int cn :: CV.int cr :: CV.int cp :: CV.int cdl :: CV.dat cps :: CV.dat css :: CV.bool cv :: CV.int p1 :: CV.int p2 :: CV.int p3 :: CV.int p4 :: CV.bool pf :: CV.int p6 :: CV.dat pw :: CV.dat ph :: CV.int q1 :: CV.int q2 :: CV.int q3 :: CV.int q4 :: CV.bool qf :: CV.int q6 :: CV.dat qw :: CV.dat qh :: CV.int r1 :: CV.int r2 :: CV.int r3 :: CV.int r4 :: CV.bool rf :: CV.int r6 :: CV.dat rw :: CV.dat rh :: CV.dat fl :: CV.dat wa :: CV.dat wb :: CV.dat wc :: CV.int now :: CV.int clk :: CV.bool rt :: CV.int st :: [])) ek 2 en ew = tickG (grOf (CV.int cn :: CV.int cr :: CV.int cp :: CV.int cdl :: CV.dat cps :: CV.dat css :: CV.bool cv :: CV.int p1 :: CV.int p2 :: CV.int p3 :: CV.int p4 :: CV.bool pf :: CV.int p6 :: CV.dat pw :: CV.dat ph :: CV.int q1 :: CV.int q2 :: CV.int q3 :: CV.int q4 :: CV.bool qf :: CV.int q6 :: CV.dat qw :: CV.dat qh :: CV.int r1 :: CV.int r2 :: CV.int r3 :: CV.int r4 :: CV.bool rf :: CV.int r6 :: CV.dat rw :: CV.dat rh :: CV.dat fl :: CV.dat wa :: CV.dat wb :: CV.dat wc :: CV.int now :: CV.int (IntKind.i64.wrap (clk + 1)) :: CV.bool rt :: CV.int st :: [])) en ew := by rw [Sx.stepG, if_neg (tmod7 h6 (by decide)), if_neg (tmod7 h6 (by decide)), if_neg (tmod7 h6 (by decide)), if_pos h6, clk_eq]
    rw [e] at hr ⊢
    refine ⟨⟨hRc, ⟨⟨hen, hew⟩, f9⟩, hr⟩, fun hs1 => ?_⟩
    exact ret_D (P := Try.prog) (w := w) (H := H) (v := .agg (svOf (hs1 0) 0 (tickG (grOf (CV.int cn :: CV.int cr :: CV.int cp :: CV.int cdl :: CV.dat cps :: CV.dat css :: CV.bool cv :: CV.int p1 :: CV.int p2 :: CV.int p3 :: CV.int p4 :: CV.bool pf :: CV.int p6 :: CV.dat pw :: CV.dat ph :: CV.int q1 :: CV.int q2 :: CV.int q3 :: CV.int q4 :: CV.bool qf :: CV.int q6 :: CV.dat qw :: CV.dat qh :: CV.int r1 :: CV.int r2 :: CV.int r3 :: CV.int r4 :: CV.bool rf :: CV.int r6 :: CV.dat rw :: CV.dat rh :: CV.dat fl :: CV.dat wa :: CV.dat wb :: CV.dat wc :: CV.int now :: CV.int (IntKind.i64.wrap (clk + 1)) :: CV.bool rt :: CV.int st :: [])) en ew).cls)) (g := fun ds => .agg (svOf ds 0 (tickG (grOf (CV.int cn :: CV.int cr :: CV.int cp :: CV.int cdl :: CV.dat cps :: CV.dat css :: CV.bool cv :: CV.int p1 :: CV.int p2 :: CV.int p3 :: CV.int p4 :: CV.bool pf :: CV.int p6 :: CV.dat pw :: CV.dat ph :: CV.int q1 :: CV.int q2 :: CV.int q3 :: CV.int q4 :: CV.bool qf :: CV.int q6 :: CV.dat qw :: CV.dat qh :: CV.int r1 :: CV.int r2 :: CV.int r3 :: CV.int r4 :: CV.bool rf :: CV.int r6 :: CV.dat rw :: CV.dat rh :: CV.dat fl :: CV.dat wa :: CV.dat wb :: CV.dat wc :: CV.int now :: CV.int (IntKind.i64.wrap (clk + 1)) :: CV.bool rt :: CV.int st :: [])) en ew).cls)) (hs1 0) (fun _ _ => rfl) (fun _ h => h)
  · have h0 : ¬Int.tmod ek 7 = 0 := of_decide_eq_false h0
    have h1 : ¬Int.tmod ek 7 = 1 := of_decide_eq_false h1
    have h2 : ¬Int.tmod ek 7 = 2 := of_decide_eq_false h2
    have h6 : ¬Int.tmod ek 7 = 6 := of_decide_eq_false h6
    have e : Sx.stepG (grOf (CV.int cn :: CV.int cr :: CV.int cp :: CV.int cdl :: CV.dat cps :: CV.dat css :: CV.bool cv :: CV.int p1 :: CV.int p2 :: CV.int p3 :: CV.int p4 :: CV.bool pf :: CV.int p6 :: CV.dat pw :: CV.dat ph :: CV.int q1 :: CV.int q2 :: CV.int q3 :: CV.int q4 :: CV.bool qf :: CV.int q6 :: CV.dat qw :: CV.dat qh :: CV.int r1 :: CV.int r2 :: CV.int r3 :: CV.int r4 :: CV.bool rf :: CV.int r6 :: CV.dat rw :: CV.dat rh :: CV.dat fl :: CV.dat wa :: CV.dat wb :: CV.dat wc :: CV.int now :: CV.int clk :: CV.bool rt :: CV.int st :: [])) ek 2 en ew = flightG (grOf (CV.int cn :: CV.int cr :: CV.int cp :: CV.int cdl :: CV.dat cps :: CV.dat css :: CV.bool cv :: CV.int p1 :: CV.int p2 :: CV.int p3 :: CV.int p4 :: CV.bool pf :: CV.int p6 :: CV.dat pw :: CV.dat ph :: CV.int q1 :: CV.int q2 :: CV.int q3 :: CV.int q4 :: CV.bool qf :: CV.int q6 :: CV.dat qw :: CV.dat qh :: CV.int r1 :: CV.int r2 :: CV.int r3 :: CV.int r4 :: CV.bool rf :: CV.int r6 :: CV.dat rw :: CV.dat rh :: CV.dat fl :: CV.dat wa :: CV.dat wb :: CV.dat wc :: CV.int now :: CV.int (IntKind.i64.wrap (clk + 1)) :: CV.bool rt :: CV.int st :: [])) ek ew := by rw [Sx.stepG, if_neg h0, if_neg h1, if_neg h2, if_neg h6, clk_eq]
    rw [e] at hr ⊢
    refine ⟨⟨hRc, ⟨hek, hew⟩, hr⟩, fun hs1 => ?_⟩
    exact ret_D (P := Try.prog) (w := w) (H := H) (v := .agg (svOf (hs1 0) 0 (flightG (grOf (CV.int cn :: CV.int cr :: CV.int cp :: CV.int cdl :: CV.dat cps :: CV.dat css :: CV.bool cv :: CV.int p1 :: CV.int p2 :: CV.int p3 :: CV.int p4 :: CV.bool pf :: CV.int p6 :: CV.dat pw :: CV.dat ph :: CV.int q1 :: CV.int q2 :: CV.int q3 :: CV.int q4 :: CV.bool qf :: CV.int q6 :: CV.dat qw :: CV.dat qh :: CV.int r1 :: CV.int r2 :: CV.int r3 :: CV.int r4 :: CV.bool rf :: CV.int r6 :: CV.dat rw :: CV.dat rh :: CV.dat fl :: CV.dat wa :: CV.dat wb :: CV.dat wc :: CV.int now :: CV.int (IntKind.i64.wrap (clk + 1)) :: CV.bool rt :: CV.int st :: [])) ek ew).cls)) (g := fun ds => .agg (svOf ds 0 (flightG (grOf (CV.int cn :: CV.int cr :: CV.int cp :: CV.int cdl :: CV.dat cps :: CV.dat css :: CV.bool cv :: CV.int p1 :: CV.int p2 :: CV.int p3 :: CV.int p4 :: CV.bool pf :: CV.int p6 :: CV.dat pw :: CV.dat ph :: CV.int q1 :: CV.int q2 :: CV.int q3 :: CV.int q4 :: CV.bool qf :: CV.int q6 :: CV.dat qw :: CV.dat qh :: CV.int r1 :: CV.int r2 :: CV.int r3 :: CV.int r4 :: CV.bool rf :: CV.int r6 :: CV.dat rw :: CV.dat rh :: CV.dat fl :: CV.dat wa :: CV.dat wb :: CV.dat wc :: CV.int now :: CV.int (IntKind.i64.wrap (clk + 1)) :: CV.bool rt :: CV.int st :: [])) ek ew).cls)) (hs1 0) (fun _ _ => rfl) (fun _ h => h)

theorem step_ent {w : World} {H : HV} {cn cr cp cdl : Int} {cps css : D} {cv : Bool} {p1 p2 p3 p4 : Int} {pf : Bool} {p6 : Int} {pw ph : D} {q1 q2 q3 q4 : Int} {qf : Bool} {q6 : Int} {qw qh : D} {r1 r2 r3 r4 : Int} {rf : Bool} {r6 : Int} {rw rh : D} {fl wa wb wc : D} {now clk : Int} {rt : Bool} {st : Int} {ek en ew : Int} (hek : U8 ek) (hen : U8 en) (hew : U8 ew) (hR : GrRight (CV.int cn :: CV.int cr :: CV.int cp :: CV.int cdl :: CV.dat cps :: CV.dat css :: CV.bool cv :: CV.int p1 :: CV.int p2 :: CV.int p3 :: CV.int p4 :: CV.bool pf :: CV.int p6 :: CV.dat pw :: CV.dat ph :: CV.int q1 :: CV.int q2 :: CV.int q3 :: CV.int q4 :: CV.bool qf :: CV.int q6 :: CV.dat qw :: CV.dat qh :: CV.int r1 :: CV.int r2 :: CV.int r3 :: CV.int r4 :: CV.bool rf :: CV.int r6 :: CV.dat rw :: CV.dat rh :: CV.dat fl :: CV.dat wa :: CV.dat wb :: CV.dat wc :: CV.int now :: CV.int clk :: CV.bool rt :: CV.int st :: [])) (hf9 : (grOf (CV.int cn :: CV.int cr :: CV.int cp :: CV.int cdl :: CV.dat cps :: CV.dat css :: CV.bool cv :: CV.int p1 :: CV.int p2 :: CV.int p3 :: CV.int p4 :: CV.bool pf :: CV.int p6 :: CV.dat pw :: CV.dat ph :: CV.int q1 :: CV.int q2 :: CV.int q3 :: CV.int q4 :: CV.bool qf :: CV.int q6 :: CV.dat qw :: CV.dat qh :: CV.int r1 :: CV.int r2 :: CV.int r3 :: CV.int r4 :: CV.bool rf :: CV.int r6 :: CV.dat rw :: CV.dat rh :: CV.dat fl :: CV.dat wa :: CV.dat wb :: CV.dat wc :: CV.int now :: CV.int clk :: CV.bool rt :: CV.int st :: [])).flight.length ≤ 999000) (hr : (Sx.stepG (grOf (CV.int cn :: CV.int cr :: CV.int cp :: CV.int cdl :: CV.dat cps :: CV.dat css :: CV.bool cv :: CV.int p1 :: CV.int p2 :: CV.int p3 :: CV.int p4 :: CV.bool pf :: CV.int p6 :: CV.dat pw :: CV.dat ph :: CV.int q1 :: CV.int q2 :: CV.int q3 :: CV.int q4 :: CV.bool qf :: CV.int q6 :: CV.dat qw :: CV.dat qh :: CV.int r1 :: CV.int r2 :: CV.int r3 :: CV.int r4 :: CV.bool rf :: CV.int r6 :: CV.dat rw :: CV.dat rh :: CV.dat fl :: CV.dat wa :: CV.dat wb :: CV.dat wc :: CV.int now :: CV.int clk :: CV.bool rt :: CV.int st :: [])) ek (nodeOf en) en ew).right = true) :
    Runs Try.prog ⟨w, H⟩ (entry Try.prog 45 [.agg [.int .i64 cn, .int .i64 cr, .int .i64 cp, .int .i64 cdl, .dat cps, .dat css, .bool cv, .int .i64 p1, .int .i64 p2, .int .i64 p3, .int .i64 p4, .bool pf, .int .i64 p6, .dat pw, .dat ph, .int .i64 q1, .int .i64 q2, .int .i64 q3, .int .i64 q4, .bool qf, .int .i64 q6, .dat qw, .dat qh, .int .i64 r1, .int .i64 r2, .int .i64 r3, .int .i64 r4, .bool rf, .int .i64 r6, .dat rw, .dat rh, .dat fl, .dat wa, .dat wb, .dat wc, .int .i64 now, .int .i64 clk, .bool rt, .int .i64 st], .agg [.int .u8 ek, .int .u8 en, .int .u8 ew]]) (RetD w H fun ds => .agg (svOf ds 0 (Sx.stepG (grOf (CV.int cn :: CV.int cr :: CV.int cp :: CV.int cdl :: CV.dat cps :: CV.dat css :: CV.bool cv :: CV.int p1 :: CV.int p2 :: CV.int p3 :: CV.int p4 :: CV.bool pf :: CV.int p6 :: CV.dat pw :: CV.dat ph :: CV.int q1 :: CV.int q2 :: CV.int q3 :: CV.int q4 :: CV.bool qf :: CV.int q6 :: CV.dat qw :: CV.dat qh :: CV.int r1 :: CV.int r2 :: CV.int r3 :: CV.int r4 :: CV.bool rf :: CV.int r6 :: CV.dat rw :: CV.dat rh :: CV.dat fl :: CV.dat wa :: CV.dat wb :: CV.dat wc :: CV.int now :: CV.int clk :: CV.bool rt :: CV.int st :: [])) ek (nodeOf en) en ew).cls)) := by
  have e1 : IntKind.i64.wrap en = en := wrap64 (by have := hen.1; omega) (by have := hen.2; omega)
  have t0 : 0 ≤ Int.tmod en 3 := Int.tmod_nonneg _ hen.1
  have t1 : Int.tmod en 3 < 3 := Int.tmod_lt_of_pos _ (by decide)
  apply goS_sound ctSOk (fun _ => false) [(45, 15)] 900
  rw [step_in, e1]
  refine ⟨(by decide : (3 : Int) ≠ 0), ?_⟩
  have hm : Int.tmod en 3 = 0 ∨ Int.tmod en 3 = 1 ∨ Int.tmod en 3 = 2 := by omega
  rcases hm with h | h | h
  · have hn : nodeOf en = 0 := by rw [nodeOf, if_pos h]
    rw [hn] at hr ⊢
    rw [h]
    exact step0_run hek hen hew hR hf9 hr
  · have hn : nodeOf en = 1 := by rw [nodeOf, if_neg (by omega), if_pos h]
    rw [hn] at hr ⊢
    rw [h]
    exact step1_run hek hen hew hR hf9 hr
  · have hn : nodeOf en = 2 := by rw [nodeOf, if_neg (by omega), if_neg (by omega)]
    rw [hn] at hr ⊢
    rw [h]
    exact step2_run hek hen hew hR hf9 hr

theorem lawStep : Law Try.prog 45 (((rdCells grK).two rdEv).sp spStep) := by
  refine law_in _ (by kernel_rfl) fun H w ⟨⟨cs, hsh⟩, ek, en, ew⟩ hok => ?_
  obtain ⟨cn, cr, cp, cdl, cps, css, cv, p1, p2, p3, p4, pf, p6, pw, ph, q1, q2, q3, q4, qf, q6, qw, qh, r1, r2, r3, r4, rf, r6, rw, rh, fl, wa, wb, wc, now, clk, rt, st, rfl⟩ := gr_shape hsh
  intro hp
  obtain ⟨h1, ⟨⟨h2, h3, h4⟩, h5⟩, h6⟩ := hp _ (List.mem_singleton.2 rfl)
  exact step_ent h2 h3 h4 h1 h5 h6
end Go.Proofs.Ytoechplbhbalaaa
end
section
/- Layer 21: the contracts that the plays lean on. -/
open Go Go.Proofs Sx
namespace Go.Proofs.Ytoechplbhbalaaa
noncomputable def ctP : Ctrs := (45, ctrOf (((rdCells grK).two rdEv).sp spStep)) :: ctS
theorem ctPOk : Ctrs.Ok Try.prog ctP := by
  intro x hx
  rcases List.mem_cons.1 hx with rfl | hx
  · exact ctrOf_ok lawStep
  · exact ctSOk _ hx
end Go.Proofs.Ytoechplbhbalaaa
end
section
/- Layer 21: the plays, walked. -/
open Go Go.Proofs Sx
namespace Go.Proofs.Ytoechplbhbalaaa
set_option maxRecDepth 100000
set_option maxHeartbeats 0
noncomputable def p9L (l : D) (cs : List SV) (i : Int) : Conf := Conf.mk (SFrm.mk 9 none none [Item.inLoop (cAt Try.prog 9 [1, 1, 1, 0, 1, 0, 0]), Item.inBlock 0, Item.code (cAt Try.prog 9 [1, 1, 1, 1])] (mkJ 0 [(0, .dat l), (3, .ptr 0 0), (4, .int .i64 i)] 0 68)) [] [(0, .cells 97 cs)]
noncomputable def p8L (l : D) (cs : List SV) (i : Int) : Conf := Conf.mk (SFrm.mk 8 none none [Item.inLoop (cAt Try.prog 8 [1, 1, 1, 0, 1, 0, 0]), Item.inBlock 0, Item.code (cAt Try.prog 8 [1, 1, 1, 1])] (mkJ 0 [(0, .dat l), (3, .ptr 0 0), (4, .int .i64 i)] 0 46)) [] [(0, .cells 97 cs)]
section
variable (cn cr cp cdl : Int) (cps css : D) (cv : Bool) (p1 p2 p3 p4 : Int) (pf : Bool) (p6 : Int) (pw ph : D) (q1 q2 q3 q4 : Int) (qf : Bool) (q6 : Int) (qw qh : D) (r1 r2 r3 r4 : Int) (rf : Bool) (r6 : Int) (rw rh : D) (fl wa wb wc : D) (now clk : Int) (rt : Bool) (st : Int) (l : D) (i : Int)
theorem p9_in : exec Try.prog ctP 900 (entry Try.prog 9 [.dat l]) =
 Tree.br (decide ((↑(D.len l) : Int) > 60)) (.ret (.lb true))
 (.all fun hs =>
 .leaf
 (Conf.mk
 (SFrm.mk 9 none none
 [Item.inLoop (cAt Try.prog 9 [1, 1, 1, 0, 1, 0, 0]), Item.inBlock 0, Item.code (cAt Try.prog 9 [1, 1, 1, 1])]
 (mkJ 0 [(0, .dat l), (3, .ptr 0 0), (4, .int .i64 0)] 0 68))
 []
 [(0,
 OBlk.cells 97
 [.int .i64 3, .int .i64 0, .int .i64 0, .int .i64 0,
 .dat (D.like (hs 0 0) (List.replicate 3 (0 : Int))), .dat (D.like (hs 0 1) (List.replicate 3 false)),
 .bool false, .int .i64 0, .int .i64 0, .int .i64 0, .int .i64 0,
 .lb false, .int .i64 0, .nils, .nils, .int .i64 0, .int .i64 0,
 .int .i64 0, .int .i64 0, .lb false, .int .i64 0, .nils, .nils,
 .int .i64 0, .int .i64 0, .int .i64 0, .int .i64 0, .lb false,
 .int .i64 0, .nils, .nils, .nils, .nils, .nils, .nils, .int .i64 0,
 .int .i64 0, .bool true, .int .i64 0])])) := by kernel_rfl

theorem p9_go : 
 let z2 : Tree := (.leaf (Conf.mk (SFrm.mk 9 none none [Item.code (cAt Try.prog 9 [1, 1, 1, 1, 0]), Item.code (cAt Try.prog 9 [1, 1, 1, 1, 1])] (mkJ 0 [(3, .ptr 0 0)] 0 68)) [] [(0, OBlk.cells 97 [.int .i64 cn, .int .i64 cr, .int .i64 cp, .int .i64 cdl, .dat cps, .dat css, .bool cv, .int .i64 p1, .int .i64 p2, .int .i64 p3, .int .i64 p4, .bool pf, .int .i64 p6, .dat pw, .dat ph, .int .i64 q1, .int .i64 q2, .int .i64 q3, .int .i64 q4, .bool qf, .int .i64 q6, .dat qw, .dat qh, .int .i64 r1, .int .i64 r2, .int .i64 r3, .int .i64 r4, .bool rf, .int .i64 r6, .dat rw, .dat rh, .dat fl, .dat wa, .dat wb, .dat wc, .int .i64 now, .int .i64 clk, .bool rt, .int .i64 st])]))
 let z3 : List CV := [.int cn, .int cr, .int cp, .int cdl, .dat cps, .dat css, .bool cv, .int p1, .int p2, .int p3, .int p4, .bool pf, .int p6, .dat pw, .dat ph, .int q1, .int q2, .int q3, .int q4, .bool qf, .int q6, .dat qw, .dat qh, .int r1, .int r2, .int r3, .int r4, .bool rf, .int r6, .dat rw, .dat rh, .dat fl, .dat wa, .dat wb, .dat wc, .int now, .int clk, .bool rt, .int st]
 let z1 := (Sx.stepG (grOf z3) (D.getInt l (Int.toNat i) 0) (nodeOf (D.getInt l (Int.toNat i) 1)) (D.getInt l (Int.toNat i) 1) (D.getInt l (Int.toNat i) 2))
 goS Try.prog ctP (fun _ => false) [(9, 29)] 900 (unroll (p9L l [.int .i64 cn, .int .i64 cr, .int .i64 cp, .int .i64 cdl, .dat cps, .dat css, .bool cv, .int .i64 p1, .int .i64 p2, .int .i64 p3, .int .i64 p4, .bool pf, .int .i64 p6, .dat pw, .dat ph, .int .i64 q1, .int .i64 q2, .int .i64 q3, .int .i64 q4, .bool qf, .int .i64 q6, .dat qw, .dat qh, .int .i64 r1, .int .i64 r2, .int .i64 r3, .int .i64 r4, .bool rf, .int .i64 r6, .dat rw, .dat rh, .dat fl, .dat wa, .dat wb, .dat wc, .int .i64 now, .int .i64 clk, .bool rt, .int .i64 st] i)) =
 Tree.br (decide (i < (↑(D.len l) : Int))) (.br rt (.all fun hs => .need (0 ≤ i ∧ i < (↑(D.len l) : Int) ∧ D.sz l = 3) (.need (D.HasCells l (Int.toNat i) 0 [FT.int .u8, FT.int .u8, FT.int .u8]) (.need (GrRight z3 ∧
 ((U8 (D.getInt l (Int.toNat i) 0) ∧ U8 (D.getInt l (Int.toNat i) 1) ∧ U8 (D.getInt l (Int.toNat i) 2)) ∧ List.length (D.to Msg fl) ≤ 999000) ∧ Gr.right z1 = true) (.leaf (Conf.mk (SFrm.mk 9 none none [Item.inLoop
 (cAt Try.prog 9 [1, 1, 1, 0, 1, 0, 0]), Item.inBlock 0, Item.code (cAt Try.prog 9 [1, 1, 1, 1])] (mkJ 0 [(0, .dat l), (3, .ptr 0 0), (4, .int .i64 (IntKind.wrap .i64 (i + 1)))] 0 68)) [] [(0, OBlk.cells 97 [.int .i64
 (Co.nodes (Gr.c z1)), .int .i64 (Co.round (Gr.c z1)), .int .i64 (Co.phase (Gr.c z1)), .int .i64 (Co.deadline (Gr.c z1)), .dat (D.like (hs 5 0) (Co.positions (Gr.c z1))), .dat (D.like (hs 5 1) (Co.seen
 (Gr.c z1))), .bool (Co.valid (Gr.c z1)), .int .i64 (Mb.round (Gr.node z1 (Fin.ofNat 3 0))), .int .i64 (Mb.position (Gr.node z1 (Fin.ofNat 3 0))), .int .i64 (Mb.thawed (Gr.node z1 (Fin.ofNat 3 0))), .int .i64
 (Mb.issued (Gr.node z1 (Fin.ofNat 3 0))), .bool (Mb.frozen (Gr.node z1 (Fin.ofNat 3 0))), .int .i64 (Mb.upto (Gr.node z1 (Fin.ofNat 3 0))), .dat (D.like (hs 5 2) (Mb.waiting (Gr.node z1 (Fin.ofNat 3 0)))), .dat
 (D.like (hs 5 3) (Mb.held (Gr.node z1 (Fin.ofNat 3 0)))), .int .i64 (Mb.round (Gr.node z1 (Fin.ofNat 3 1))), .int .i64 (Mb.position (Gr.node z1 (Fin.ofNat 3 1))), .int .i64 (Mb.thawed (Gr.node z1 (Fin.ofNat 3 1))), .int .i64
 (Mb.issued (Gr.node z1 (Fin.ofNat 3 1))), .bool (Mb.frozen (Gr.node z1 (Fin.ofNat 3 1))), .int .i64 (Mb.upto (Gr.node z1 (Fin.ofNat 3 1))), .dat (D.like (hs 5 4) (Mb.waiting (Gr.node z1 (Fin.ofNat 3 1)))), .dat
 (D.like (hs 5 5) (Mb.held (Gr.node z1 (Fin.ofNat 3 1)))), .int .i64 (Mb.round (Gr.node z1 (Fin.ofNat 3 2))), .int .i64 (Mb.position (Gr.node z1 (Fin.ofNat 3 2))), .int .i64 (Mb.thawed (Gr.node z1 (Fin.ofNat 3 2))), .int .i64
 (Mb.issued (Gr.node z1 (Fin.ofNat 3 2))), .bool (Mb.frozen (Gr.node z1 (Fin.ofNat 3 2))), .int .i64 (Mb.upto (Gr.node z1 (Fin.ofNat 3 2))), .dat (D.like (hs 5 6) (Mb.waiting (Gr.node z1 (Fin.ofNat 3 2)))), .dat
 (D.like (hs 5 7) (Mb.held (Gr.node z1 (Fin.ofNat 3 2)))), .dat (D.like (hs 5 8) (Gr.flight z1)), .dat (D.like (hs 5 9) (Gr.wr z1 (Fin.ofNat 3 0))), .dat (D.like (hs 5 10) (Gr.wr z1 (Fin.ofNat 3 1))), .dat
 (D.like (hs 5 11) (Gr.wr z1 (Fin.ofNat 3 2))), .int .i64 (Gr.now z1), .int .i64 (Gr.clock z1), .bool (Gr.right z1), .int .i64 (Gr.started z1)])]))))) z2) z2 := by
 intros; kernel_rfl

end
end Go.Proofs.Ytoechplbhbalaaa
end
section
/- Layer 21: the end of BarrierAcknowledges, walked. -/
open Go Go.Proofs Sx
namespace Go.Proofs.Ytoechplbhbalaaa
set_option maxRecDepth 100000
set_option maxHeartbeats 0
noncomputable def p9E (cs : List SV) : Conf := Conf.mk (SFrm.mk 9 none none [Item.code (cAt Try.prog 9 [1, 1, 1, 1, 0]), Item.code (cAt Try.prog 9 [1, 1, 1, 1, 1])] (mkJ 0 [(3, .ptr 0 0)] 0 68)) [] [(0, .cells 97 cs)]
section
variable (cn cr cp cdl : Int) (cps css : D) (cv : Bool) (p1 p2 p3 p4 : Int) (pf : Bool) (p6 : Int) (pw ph : D) (q1 q2 q3 q4 : Int) (qf : Bool) (q6 : Int) (qw qh : D) (r1 r2 r3 r4 : Int) (rf : Bool) (r6 : Int) (rw rh : D) (fl wa wb wc : D) (now clk : Int) (rt : Bool) (st : Int) (i : Int)
theorem p9E_go : 
 let z1 : List CV := [.int cn, .int cr, .int cp, .int cdl, .dat cps, .dat css, .bool cv, .int p1, .int p2, .int p3, .int p4, .bool pf, .int p6, .dat pw, .dat ph, .int q1, .int q2, .int q3, .int q4, .bool qf, .int q6, .dat qw, .dat qh, .int r1, .int r2, .int r3, .int r4, .bool rf, .int r6, .dat rw, .dat rh, .dat fl, .dat wa, .dat wb, .dat wc, .int (IntKind.wrap .i64 (now + 100)), .int clk, .bool rt, .int st]
 exec Try.prog ctP 900 (p9E [.int .i64 cn, .int .i64 cr, .int .i64 cp, .int .i64 cdl, .dat cps, .dat css, .bool cv, .int .i64 p1, .int .i64 p2, .int .i64 p3, .int .i64 p4, .bool pf, .int .i64 p6, .dat pw, .dat ph, .int .i64 q1, .int .i64 q2, .int .i64 q3, .int .i64 q4, .bool qf, .int .i64 q6, .dat qw, .dat qh, .int .i64 r1, .int .i64 r2, .int .i64 r3, .int .i64 r4, .bool rf, .int .i64 r6, .dat rw, .dat rh, .dat fl, .dat wa, .dat wb, .dat wc, .int .i64 now, .int .i64 clk, .bool rt, .int .i64 st]) =
 Tree.need (GrRight z1 ∧ ((U8 1 ∧ U8 0) ∧ List.length (Gr.flight (grOf z1)) ≤ 999000) ∧ Gr.right (tickG (grOf z1) 1 0) = true) (.all fun hs => .leaf (Conf.mk (SFrm.mk 9 none none [Item.inLoop (cAt Try.prog 9 [1, 1, 1, 1, 1, 1, 0, 1, 0, 0]), Item.inBlock 2, Item.code
 (cAt Try.prog 9 [1, 1, 1, 1, 1, 1, 1])] (mkJ 0 [(3, .ptr 0 0), (5, .int .i64 0)] 0 68)) [] [(0, OBlk.cells 97 [.int .i64 (Co.nodes (Gr.c (tickG (grOf z1) 1 0))), .int .i64 (Co.round (Gr.c (tickG (grOf z1) 1 0))), .int .i64
 (Co.phase (Gr.c (tickG (grOf z1) 1 0))), .int .i64 (Co.deadline (Gr.c (tickG (grOf z1) 1 0))), .dat (D.like (hs 0 0) (Co.positions (Gr.c (tickG (grOf z1) 1 0)))), .dat (D.like (hs 0 1) (Co.seen (Gr.c (tickG
 (grOf z1) 1 0)))), .bool (Co.valid (Gr.c (tickG (grOf z1) 1 0))), .int .i64 (Mb.round (Gr.node (tickG (grOf z1) 1 0) (Fin.ofNat 3 0))), .int .i64 (Mb.position (Gr.node (tickG (grOf z1) 1 0) (Fin.ofNat 3 0))), .int .i64
 (Mb.thawed (Gr.node (tickG (grOf z1) 1 0) (Fin.ofNat 3 0))), .int .i64 (Mb.issued (Gr.node (tickG (grOf z1) 1 0) (Fin.ofNat 3 0))), .bool (Mb.frozen (Gr.node (tickG (grOf z1) 1 0) (Fin.ofNat 3 0))), .int .i64
 (Mb.upto (Gr.node (tickG (grOf z1) 1 0) (Fin.ofNat 3 0))), .dat (D.like (hs 0 2) (Mb.waiting (Gr.node (tickG (grOf z1) 1 0) (Fin.ofNat 3 0)))), .dat (D.like (hs 0 3) (Mb.held (Gr.node (tickG (grOf z1) 1 0)
 (Fin.ofNat 3 0)))), .int .i64 (Mb.round (Gr.node (tickG (grOf z1) 1 0) (Fin.ofNat 3 1))), .int .i64 (Mb.position (Gr.node (tickG (grOf z1) 1 0) (Fin.ofNat 3 1))), .int .i64 (Mb.thawed (Gr.node (tickG (grOf z1) 1 0)
 (Fin.ofNat 3 1))), .int .i64 (Mb.issued (Gr.node (tickG (grOf z1) 1 0) (Fin.ofNat 3 1))), .bool (Mb.frozen (Gr.node (tickG (grOf z1) 1 0) (Fin.ofNat 3 1))), .int .i64 (Mb.upto (Gr.node (tickG (grOf z1) 1 0)
 (Fin.ofNat 3 1))), .dat (D.like (hs 0 4) (Mb.waiting (Gr.node (tickG (grOf z1) 1 0) (Fin.ofNat 3 1)))), .dat (D.like (hs 0 5) (Mb.held (Gr.node (tickG (grOf z1) 1 0) (Fin.ofNat 3 1)))), .int .i64 (Mb.round
 (Gr.node (tickG (grOf z1) 1 0) (Fin.ofNat 3 2))), .int .i64 (Mb.position (Gr.node (tickG (grOf z1) 1 0) (Fin.ofNat 3 2))), .int .i64 (Mb.thawed (Gr.node (tickG (grOf z1) 1 0) (Fin.ofNat 3 2))), .int .i64
 (Mb.issued (Gr.node (tickG (grOf z1) 1 0) (Fin.ofNat 3 2))), .bool (Mb.frozen (Gr.node (tickG (grOf z1) 1 0) (Fin.ofNat 3 2))), .int .i64 (Mb.upto (Gr.node (tickG (grOf z1) 1 0) (Fin.ofNat 3 2))), .dat
 (D.like (hs 0 6) (Mb.waiting (Gr.node (tickG (grOf z1) 1 0) (Fin.ofNat 3 2)))), .dat (D.like (hs 0 7) (Mb.held (Gr.node (tickG (grOf z1) 1 0) (Fin.ofNat 3 2)))), .dat (D.like (hs 0 8) (Gr.flight (tickG
 (grOf z1) 1 0))), .dat (D.like (hs 0 9) (Gr.wr (tickG (grOf z1) 1 0) (Fin.ofNat 3 0))), .dat (D.like (hs 0 10) (Gr.wr (tickG (grOf z1) 1 0) (Fin.ofNat 3 1))), .dat (D.like (hs 0 11) (Gr.wr (tickG (grOf z1) 1 0)
 (Fin.ofNat 3 2))), .int .i64 (Gr.now (tickG (grOf z1) 1 0)), .int .i64 (Gr.clock (tickG (grOf z1) 1 0)), .bool (Gr.right (tickG (grOf z1) 1 0)), .int .i64 (Gr.started (tickG (grOf z1) 1 0))])])) := by
 intros; kernel_rfl

end
end Go.Proofs.Ytoechplbhbalaaa
end
section
/- Layer 21: the end of BarrierAcknowledges, walked. -/
open Go Go.Proofs Sx
namespace Go.Proofs.Ytoechplbhbalaaa
set_option maxRecDepth 100000
set_option maxHeartbeats 0
noncomputable def p9N (cs : List SV) (n : Int) : Conf := Conf.mk (SFrm.mk 9 none none [Item.inLoop (cAt Try.prog 9 [1, 1, 1, 1, 1, 1, 0, 1, 0, 0]), Item.inBlock 2, Item.code (cAt Try.prog 9 [1, 1, 1, 1, 1, 1, 1])] (mkJ 0 [(3, .ptr 0 0), (5, .int .i64 n)] 0 68)) [] [(0, .cells 97 cs)]
noncomputable def p9W (cs : List SV) (n i : Int) : Conf := Conf.mk (SFrm.mk 9 none none [Item.inLoop (cAt Try.prog 9 [1, 1, 1, 1, 1, 1, 0, 1, 0, 0, 1, 0, 0, 1, 0, 0]), Item.inBlock 4, Item.inBlock 3, Item.code (cAt Try.prog 9 [1, 1, 1, 1, 1, 1, 0, 1, 0, 0, 1, 1]), Item.inLoop (cAt Try.prog 9 [1, 1, 1, 1, 1, 1, 0, 1, 0, 0]), Item.inBlock 2, Item.code (cAt Try.prog 9 [1, 1, 1, 1, 1, 1, 1])] (mkJ 0 [(3, .ptr 0 0), (5, .int .i64 n), (6, .int .i64 i)] 0 68)) [] [(0, .cells 97 cs)]
section
variable (cn cr cp cdl : Int) (cps css : D) (cv : Bool) (p1 p2 p3 p4 : Int) (pf : Bool) (p6 : Int) (pw ph : D) (q1 q2 q3 q4 : Int) (qf : Bool) (q6 : Int) (qw qh : D) (r1 r2 r3 r4 : Int) (rf : Bool) (r6 : Int) (rw rh : D) (fl wa wb wc : D) (now clk : Int) (rt : Bool) (st : Int) (i : Int)
theorem p9N0_go : exec Try.prog ctP 900 (unroll (p9N [.int .i64 cn, .int .i64 cr, .int .i64 cp, .int .i64 cdl, .dat cps, .dat css, .bool cv, .int .i64 p1, .int .i64 p2, .int .i64 p3, .int .i64 p4, .bool pf, .int .i64 p6, .dat pw, .dat ph, .int .i64 q1, .int .i64 q2, .int .i64 q3, .int .i64 q4, .bool qf, .int .i64 q6, .dat qw, .dat qh, .int .i64 r1, .int .i64 r2, .int .i64 r3, .int .i64 r4, .bool rf, .int .i64 r6, .dat rw, .dat rh, .dat fl, .dat wa, .dat wb, .dat wc, .int .i64 now, .int .i64 clk, .bool rt, .int .i64 st] 0)) =
 Tree.br true
 (.leaf
 (Conf.mk
 (SFrm.mk 9 none none
 [Item.inLoop (cAt Try.prog 9 [1, 1, 1, 1, 1, 1, 0, 1, 0, 0, 1, 0, 0, 1, 0, 0]), Item.inBlock 4, Item.inBlock 3,
 Item.code (cAt Try.prog 9 [1, 1, 1, 1, 1, 1, 0, 1, 0, 0, 1, 1]),
 Item.inLoop (cAt Try.prog 9 [1, 1, 1, 1, 1, 1, 0, 1, 0, 0]), Item.inBlock 2,
 Item.code (cAt Try.prog 9 [1, 1, 1, 1, 1, 1, 1])]
 (mkJ 0 [(3, .ptr 0 0), (5, .int .i64 0), (6, .int .i64 0)] 0 68))
 []
 [(0,
 OBlk.cells 97
 [.int .i64 cn, .int .i64 cr, .int .i64 cp, .int .i64 cdl, .dat cps,
 .dat css, .bool cv, .int .i64 p1, .int .i64 p2, .int .i64 p3,
 .int .i64 p4, .bool pf, .int .i64 p6, .dat pw, .dat ph, .int .i64 q1,
 .int .i64 q2, .int .i64 q3, .int .i64 q4, .bool qf, .int .i64 q6,
 .dat qw, .dat qh, .int .i64 r1, .int .i64 r2, .int .i64 r3,
 .int .i64 r4, .bool rf, .int .i64 r6, .dat rw, .dat rh, .dat fl, .dat wa,
 .dat wb, .dat wc, .int .i64 now, .int .i64 clk, .bool rt,
 .int .i64 st])]))
 (.ret (.bool rt)) := by kernel_rfl

theorem p9N1_go : exec Try.prog ctP 900 (unroll (p9N [.int .i64 cn, .int .i64 cr, .int .i64 cp, .int .i64 cdl, .dat cps, .dat css, .bool cv, .int .i64 p1, .int .i64 p2, .int .i64 p3, .int .i64 p4, .bool pf, .int .i64 p6, .dat pw, .dat ph, .int .i64 q1, .int .i64 q2, .int .i64 q3, .int .i64 q4, .bool qf, .int .i64 q6, .dat qw, .dat qh, .int .i64 r1, .int .i64 r2, .int .i64 r3, .int .i64 r4, .bool rf, .int .i64 r6, .dat rw, .dat rh, .dat fl, .dat wa, .dat wb, .dat wc, .int .i64 now, .int .i64 clk, .bool rt, .int .i64 st] 1)) =
 Tree.br true
 (.leaf
 (Conf.mk
 (SFrm.mk 9 none none
 [Item.inLoop (cAt Try.prog 9 [1, 1, 1, 1, 1, 1, 0, 1, 0, 0, 1, 0, 0, 1, 0, 0]), Item.inBlock 4, Item.inBlock 3,
 Item.code (cAt Try.prog 9 [1, 1, 1, 1, 1, 1, 0, 1, 0, 0, 1, 1]),
 Item.inLoop (cAt Try.prog 9 [1, 1, 1, 1, 1, 1, 0, 1, 0, 0]), Item.inBlock 2,
 Item.code (cAt Try.prog 9 [1, 1, 1, 1, 1, 1, 1])]
 (mkJ 0 [(3, .ptr 0 0), (5, .int .i64 1), (6, .int .i64 0)] 0 68))
 []
 [(0,
 OBlk.cells 97
 [.int .i64 cn, .int .i64 cr, .int .i64 cp, .int .i64 cdl, .dat cps,
 .dat css, .bool cv, .int .i64 p1, .int .i64 p2, .int .i64 p3,
 .int .i64 p4, .bool pf, .int .i64 p6, .dat pw, .dat ph, .int .i64 q1,
 .int .i64 q2, .int .i64 q3, .int .i64 q4, .bool qf, .int .i64 q6,
 .dat qw, .dat qh, .int .i64 r1, .int .i64 r2, .int .i64 r3,
 .int .i64 r4, .bool rf, .int .i64 r6, .dat rw, .dat rh, .dat fl, .dat wa,
 .dat wb, .dat wc, .int .i64 now, .int .i64 clk, .bool rt,
 .int .i64 st])]))
 (.ret (.bool rt)) := by kernel_rfl

theorem p9N2_go : exec Try.prog ctP 900 (unroll (p9N [.int .i64 cn, .int .i64 cr, .int .i64 cp, .int .i64 cdl, .dat cps, .dat css, .bool cv, .int .i64 p1, .int .i64 p2, .int .i64 p3, .int .i64 p4, .bool pf, .int .i64 p6, .dat pw, .dat ph, .int .i64 q1, .int .i64 q2, .int .i64 q3, .int .i64 q4, .bool qf, .int .i64 q6, .dat qw, .dat qh, .int .i64 r1, .int .i64 r2, .int .i64 r3, .int .i64 r4, .bool rf, .int .i64 r6, .dat rw, .dat rh, .dat fl, .dat wa, .dat wb, .dat wc, .int .i64 now, .int .i64 clk, .bool rt, .int .i64 st] 2)) =
 Tree.br true
 (.leaf
 (Conf.mk
 (SFrm.mk 9 none none
 [Item.inLoop (cAt Try.prog 9 [1, 1, 1, 1, 1, 1, 0, 1, 0, 0, 1, 0, 0, 1, 0, 0]), Item.inBlock 4, Item.inBlock 3,
 Item.code (cAt Try.prog 9 [1, 1, 1, 1, 1, 1, 0, 1, 0, 0, 1, 1]),
 Item.inLoop (cAt Try.prog 9 [1, 1, 1, 1, 1, 1, 0, 1, 0, 0]), Item.inBlock 2,
 Item.code (cAt Try.prog 9 [1, 1, 1, 1, 1, 1, 1])]
 (mkJ 0 [(3, .ptr 0 0), (5, .int .i64 2), (6, .int .i64 0)] 0 68))
 []
 [(0,
 OBlk.cells 97
 [.int .i64 cn, .int .i64 cr, .int .i64 cp, .int .i64 cdl, .dat cps,
 .dat css, .bool cv, .int .i64 p1, .int .i64 p2, .int .i64 p3,
 .int .i64 p4, .bool pf, .int .i64 p6, .dat pw, .dat ph, .int .i64 q1,
 .int .i64 q2, .int .i64 q3, .int .i64 q4, .bool qf, .int .i64 q6,
 .dat qw, .dat qh, .int .i64 r1, .int .i64 r2, .int .i64 r3,
 .int .i64 r4, .bool rf, .int .i64 r6, .dat rw, .dat rh, .dat fl, .dat wa,
 .dat wb, .dat wc, .int .i64 now, .int .i64 clk, .bool rt,
 .int .i64 st])]))
 (.ret (.bool rt)) := by kernel_rfl

theorem p9N3_go : exec Try.prog ctP 900 (unroll (p9N [.int .i64 cn, .int .i64 cr, .int .i64 cp, .int .i64 cdl, .dat cps, .dat css, .bool cv, .int .i64 p1, .int .i64 p2, .int .i64 p3, .int .i64 p4, .bool pf, .int .i64 p6, .dat pw, .dat ph, .int .i64 q1, .int .i64 q2, .int .i64 q3, .int .i64 q4, .bool qf, .int .i64 q6, .dat qw, .dat qh, .int .i64 r1, .int .i64 r2, .int .i64 r3, .int .i64 r4, .bool rf, .int .i64 r6, .dat rw, .dat rh, .dat fl, .dat wa, .dat wb, .dat wc, .int .i64 now, .int .i64 clk, .bool rt, .int .i64 st] 3)) =
 Tree.br false
 (.leaf
 (Conf.mk
 (SFrm.mk 9 none none
 [Item.inLoop (cAt Try.prog 9 [1, 1, 1, 1, 1, 1, 0, 1, 0, 0, 1, 0, 0, 1, 0, 0]), Item.inBlock 4, Item.inBlock 3,
 Item.code (cAt Try.prog 9 [1, 1, 1, 1, 1, 1, 0, 1, 0, 0, 1, 1]),
 Item.inLoop (cAt Try.prog 9 [1, 1, 1, 1, 1, 1, 0, 1, 0, 0]), Item.inBlock 2,
 Item.code (cAt Try.prog 9 [1, 1, 1, 1, 1, 1, 1])]
 (mkJ 0 [(3, .ptr 0 0), (5, .int .i64 3), (6, .int .i64 0)] 0 68))
 []
 [(0,
 OBlk.cells 97
 [.int .i64 cn, .int .i64 cr, .int .i64 cp, .int .i64 cdl, .dat cps,
 .dat css, .bool cv, .int .i64 p1, .int .i64 p2, .int .i64 p3,
 .int .i64 p4, .bool pf, .int .i64 p6, .dat pw, .dat ph, .int .i64 q1,
 .int .i64 q2, .int .i64 q3, .int .i64 q4, .bool qf, .int .i64 q6,
 .dat qw, .dat qh, .int .i64 r1, .int .i64 r2, .int .i64 r3,
 .int .i64 r4, .bool rf, .int .i64 r6, .dat rw, .dat rh, .dat fl, .dat wa,
 .dat wb, .dat wc, .int .i64 now, .int .i64 clk, .bool rt,
 .int .i64 st])]))
 (.ret (.bool rt)) := by kernel_rfl

theorem p9W0_go : exec Try.prog ctP 900 (unroll (p9W [.int .i64 cn, .int .i64 cr, .int .i64 cp, .int .i64 cdl, .dat cps, .dat css, .bool cv, .int .i64 p1, .int .i64 p2, .int .i64 p3, .int .i64 p4, .bool pf, .int .i64 p6, .dat pw, .dat ph, .int .i64 q1, .int .i64 q2, .int .i64 q3, .int .i64 q4, .bool qf, .int .i64 q6, .dat qw, .dat qh, .int .i64 r1, .int .i64 r2, .int .i64 r3, .int .i64 r4, .bool rf, .int .i64 r6, .dat rw, .dat rh, .dat fl, .dat wa, .dat wb, .dat wc, .int .i64 now, .int .i64 clk, .bool rt, .int .i64 st] 0 i)) =
 Tree.need ((0 : Int) ≤ 0 ∧ 0 < (↑3 : Int))
 (.br (decide (i < (↑(D.len wa) : Int)))
 (.need ((0 : Int) ≤ 0 ∧ 0 < (↑3 : Int))
 (.need (0 ≤ i ∧ i < (↑(D.len wa) : Int) ∧ D.sz wa = 4)
 (.need
 (D.HasCells wa (Int.toNat i) 0
 [FT.int .i64, FT.int .i64, FT.int .i64, FT.int .i64])
 (.br (!decide (decide (D.getInt wa (Int.toNat i) 2 > 0) = decide (D.getInt wa (Int.toNat i) 1 > 0)))
 (.ret (.lb false))
 (.leaf
 (Conf.mk
 (SFrm.mk 9 none none
 [Item.inLoop (cAt Try.prog 9 [1, 1, 1, 1, 1, 1, 0, 1, 0, 0, 1, 0, 0, 1, 0, 0]), Item.inBlock 4,
 Item.inBlock 3, Item.code (cAt Try.prog 9 [1, 1, 1, 1, 1, 1, 0, 1, 0, 0, 1, 1]),
 Item.inLoop (cAt Try.prog 9 [1, 1, 1, 1, 1, 1, 0, 1, 0, 0]), Item.inBlock 2,
 Item.code (cAt Try.prog 9 [1, 1, 1, 1, 1, 1, 1])]
 (mkJ 0
 [(3, .ptr 0 0), (5, .int .i64 0),
 (6, .int .i64 (IntKind.wrap .i64 (i + 1)))]
 0 68))
 []
 [(0,
 OBlk.cells 97
 [.int .i64 cn, .int .i64 cr, .int .i64 cp, .int .i64 cdl,
 .dat cps, .dat css, .bool cv, .int .i64 p1, .int .i64 p2,
 .int .i64 p3, .int .i64 p4, .bool pf, .int .i64 p6, .dat pw,
 .dat ph, .int .i64 q1, .int .i64 q2, .int .i64 q3,
 .int .i64 q4, .bool qf, .int .i64 q6, .dat qw, .dat qh,
 .int .i64 r1, .int .i64 r2, .int .i64 r3, .int .i64 r4,
 .bool rf, .int .i64 r6, .dat rw, .dat rh, .dat fl, .dat wa, .dat wb,
 .dat wc, .int .i64 now, .int .i64 clk, .bool rt,
 .int .i64 st])]))))))
 (.leaf
 (Conf.mk
 (SFrm.mk 9 none none
 [Item.inLoop (cAt Try.prog 9 [1, 1, 1, 1, 1, 1, 0, 1, 0, 0]), Item.inBlock 2,
 Item.code (cAt Try.prog 9 [1, 1, 1, 1, 1, 1, 1])]
 (mkJ 0 [(3, .ptr 0 0), (5, .int .i64 (IntKind.wrap .i64 (0 + 1)))] 0 68))
 []
 [(0,
 OBlk.cells 97
 [.int .i64 cn, .int .i64 cr, .int .i64 cp, .int .i64 cdl, .dat cps,
 .dat css, .bool cv, .int .i64 p1, .int .i64 p2, .int .i64 p3,
 .int .i64 p4, .bool pf, .int .i64 p6, .dat pw, .dat ph, .int .i64 q1,
 .int .i64 q2, .int .i64 q3, .int .i64 q4, .bool qf, .int .i64 q6,
 .dat qw, .dat qh, .int .i64 r1, .int .i64 r2, .int .i64 r3,
 .int .i64 r4, .bool rf, .int .i64 r6, .dat rw, .dat rh, .dat fl, .dat wa,
 .dat wb, .dat wc, .int .i64 now, .int .i64 clk, .bool rt,
 .int .i64 st])]))) := by kernel_rfl

theorem p9W1_go : exec Try.prog ctP 900 (unroll (p9W [.int .i64 cn, .int .i64 cr, .int .i64 cp, .int .i64 cdl, .dat cps, .dat css, .bool cv, .int .i64 p1, .int .i64 p2, .int .i64 p3, .int .i64 p4, .bool pf, .int .i64 p6, .dat pw, .dat ph, .int .i64 q1, .int .i64 q2, .int .i64 q3, .int .i64 q4, .bool qf, .int .i64 q6, .dat qw, .dat qh, .int .i64 r1, .int .i64 r2, .int .i64 r3, .int .i64 r4, .bool rf, .int .i64 r6, .dat rw, .dat rh, .dat fl, .dat wa, .dat wb, .dat wc, .int .i64 now, .int .i64 clk, .bool rt, .int .i64 st] 1 i)) =
 Tree.need ((0 : Int) ≤ 1 ∧ 1 < (↑3 : Int))
 (.br (decide (i < (↑(D.len wb) : Int)))
 (.need ((0 : Int) ≤ 1 ∧ 1 < (↑3 : Int))
 (.need (0 ≤ i ∧ i < (↑(D.len wb) : Int) ∧ D.sz wb = 4)
 (.need
 (D.HasCells wb (Int.toNat i) 0
 [FT.int .i64, FT.int .i64, FT.int .i64, FT.int .i64])
 (.br (!decide (decide (D.getInt wb (Int.toNat i) 2 > 0) = decide (D.getInt wb (Int.toNat i) 1 > 0)))
 (.ret (.lb false))
 (.leaf
 (Conf.mk
 (SFrm.mk 9 none none
 [Item.inLoop (cAt Try.prog 9 [1, 1, 1, 1, 1, 1, 0, 1, 0, 0, 1, 0, 0, 1, 0, 0]), Item.inBlock 4,
 Item.inBlock 3, Item.code (cAt Try.prog 9 [1, 1, 1, 1, 1, 1, 0, 1, 0, 0, 1, 1]),
 Item.inLoop (cAt Try.prog 9 [1, 1, 1, 1, 1, 1, 0, 1, 0, 0]), Item.inBlock 2,
 Item.code (cAt Try.prog 9 [1, 1, 1, 1, 1, 1, 1])]
 (mkJ 0
 [(3, .ptr 0 0), (5, .int .i64 1),
 (6, .int .i64 (IntKind.wrap .i64 (i + 1)))]
 0 68))
 []
 [(0,
 OBlk.cells 97
 [.int .i64 cn, .int .i64 cr, .int .i64 cp, .int .i64 cdl,
 .dat cps, .dat css, .bool cv, .int .i64 p1, .int .i64 p2,
 .int .i64 p3, .int .i64 p4, .bool pf, .int .i64 p6, .dat pw,
 .dat ph, .int .i64 q1, .int .i64 q2, .int .i64 q3,
 .int .i64 q4, .bool qf, .int .i64 q6, .dat qw, .dat qh,
 .int .i64 r1, .int .i64 r2, .int .i64 r3, .int .i64 r4,
 .bool rf, .int .i64 r6, .dat rw, .dat rh, .dat fl, .dat wa, .dat wb,
 .dat wc, .int .i64 now, .int .i64 clk, .bool rt,
 .int .i64 st])]))))))
 (.leaf
 (Conf.mk
 (SFrm.mk 9 none none
 [Item.inLoop (cAt Try.prog 9 [1, 1, 1, 1, 1, 1, 0, 1, 0, 0]), Item.inBlock 2,
 Item.code (cAt Try.prog 9 [1, 1, 1, 1, 1, 1, 1])]
 (mkJ 0 [(3, .ptr 0 0), (5, .int .i64 (IntKind.wrap .i64 (1 + 1)))] 0 68))
 []
 [(0,
 OBlk.cells 97
 [.int .i64 cn, .int .i64 cr, .int .i64 cp, .int .i64 cdl, .dat cps,
 .dat css, .bool cv, .int .i64 p1, .int .i64 p2, .int .i64 p3,
 .int .i64 p4, .bool pf, .int .i64 p6, .dat pw, .dat ph, .int .i64 q1,
 .int .i64 q2, .int .i64 q3, .int .i64 q4, .bool qf, .int .i64 q6,
 .dat qw, .dat qh, .int .i64 r1, .int .i64 r2, .int .i64 r3,
 .int .i64 r4, .bool rf, .int .i64 r6, .dat rw, .dat rh, .dat fl, .dat wa,
 .dat wb, .dat wc, .int .i64 now, .int .i64 clk, .bool rt,
 .int .i64 st])]))) := by kernel_rfl

theorem p9W2_go : exec Try.prog ctP 900 (unroll (p9W [.int .i64 cn, .int .i64 cr, .int .i64 cp, .int .i64 cdl, .dat cps, .dat css, .bool cv, .int .i64 p1, .int .i64 p2, .int .i64 p3, .int .i64 p4, .bool pf, .int .i64 p6, .dat pw, .dat ph, .int .i64 q1, .int .i64 q2, .int .i64 q3, .int .i64 q4, .bool qf, .int .i64 q6, .dat qw, .dat qh, .int .i64 r1, .int .i64 r2, .int .i64 r3, .int .i64 r4, .bool rf, .int .i64 r6, .dat rw, .dat rh, .dat fl, .dat wa, .dat wb, .dat wc, .int .i64 now, .int .i64 clk, .bool rt, .int .i64 st] 2 i)) =
 Tree.need ((0 : Int) ≤ 2 ∧ 2 < (↑3 : Int))
 (.br (decide (i < (↑(D.len wc) : Int)))
 (.need ((0 : Int) ≤ 2 ∧ 2 < (↑3 : Int))
 (.need (0 ≤ i ∧ i < (↑(D.len wc) : Int) ∧ D.sz wc = 4)
 (.need
 (D.HasCells wc (Int.toNat i) 0
 [FT.int .i64, FT.int .i64, FT.int .i64, FT.int .i64])
 (.br (!decide (decide (D.getInt wc (Int.toNat i) 2 > 0) = decide (D.getInt wc (Int.toNat i) 1 > 0)))
 (.ret (.lb false))
 (.leaf
 (Conf.mk
 (SFrm.mk 9 none none
 [Item.inLoop (cAt Try.prog 9 [1, 1, 1, 1, 1, 1, 0, 1, 0, 0, 1, 0, 0, 1, 0, 0]), Item.inBlock 4,
 Item.inBlock 3, Item.code (cAt Try.prog 9 [1, 1, 1, 1, 1, 1, 0, 1, 0, 0, 1, 1]),
 Item.inLoop (cAt Try.prog 9 [1, 1, 1, 1, 1, 1, 0, 1, 0, 0]), Item.inBlock 2,
 Item.code (cAt Try.prog 9 [1, 1, 1, 1, 1, 1, 1])]
 (mkJ 0
 [(3, .ptr 0 0), (5, .int .i64 2),
 (6, .int .i64 (IntKind.wrap .i64 (i + 1)))]
 0 68))
 []
 [(0,
 OBlk.cells 97
 [.int .i64 cn, .int .i64 cr, .int .i64 cp, .int .i64 cdl,
 .dat cps, .dat css, .bool cv, .int .i64 p1, .int .i64 p2,
 .int .i64 p3, .int .i64 p4, .bool pf, .int .i64 p6, .dat pw,
 .dat ph, .int .i64 q1, .int .i64 q2, .int .i64 q3,
 .int .i64 q4, .bool qf, .int .i64 q6, .dat qw, .dat qh,
 .int .i64 r1, .int .i64 r2, .int .i64 r3, .int .i64 r4,
 .bool rf, .int .i64 r6, .dat rw, .dat rh, .dat fl, .dat wa, .dat wb,
 .dat wc, .int .i64 now, .int .i64 clk, .bool rt,
 .int .i64 st])]))))))
 (.leaf
 (Conf.mk
 (SFrm.mk 9 none none
 [Item.inLoop (cAt Try.prog 9 [1, 1, 1, 1, 1, 1, 0, 1, 0, 0]), Item.inBlock 2,
 Item.code (cAt Try.prog 9 [1, 1, 1, 1, 1, 1, 1])]
 (mkJ 0 [(3, .ptr 0 0), (5, .int .i64 (IntKind.wrap .i64 (2 + 1)))] 0 68))
 []
 [(0,
 OBlk.cells 97
 [.int .i64 cn, .int .i64 cr, .int .i64 cp, .int .i64 cdl, .dat cps,
 .dat css, .bool cv, .int .i64 p1, .int .i64 p2, .int .i64 p3,
 .int .i64 p4, .bool pf, .int .i64 p6, .dat pw, .dat ph, .int .i64 q1,
 .int .i64 q2, .int .i64 q3, .int .i64 q4, .bool qf, .int .i64 q6,
 .dat qw, .dat qh, .int .i64 r1, .int .i64 r2, .int .i64 r3,
 .int .i64 r4, .bool rf, .int .i64 r6, .dat rw, .dat rh, .dat fl, .dat wa,
 .dat wb, .dat wc, .int .i64 now, .int .i64 clk, .bool rt,
 .int .i64 st])]))) := by kernel_rfl

end
end Go.Proofs.Ytoechplbhbalaaa
end
section
/- A block of cells, said otherwise; the cells of a result as cells that come in. -/
namespace Sx
open Go RowKit

theorem cellsTo {P : Program} {C : Ctx} {R : Value → World → Prop} {top : SFrm} {rest : List SFrm} {k : Nat} {t : TypeId} {cs cs' : List SV} {r : Mem}
    (hd : ∀ E, SV.denL E cs' = SV.denL E cs) (ho : ∀ H, SV.OkL H cs → SV.OkL H cs') (h : Runs P C ⟨top, rest, (k, .cells t cs') :: r⟩ R) : Runs P C ⟨top, rest, (k, .cells t cs) :: r⟩ R := by
  intro E H w g ok
  refine h E H w ⟨g.below, g.ext, g.fresh, g.cell, fun j o hj => ?_, ?_, ?_⟩ ok
  · rcases List.mem_cons.1 hj with hj | hj
    · cases hj
      obtain ⟨a1, a2, a3, a4⟩ := g.own k _ List.mem_cons_self
      exact ⟨a1, by rw [hd]; exact a2, a3, ho _ a4⟩
    · exact g.own j o (List.mem_cons_of_mem _ hj)
  · have := g.keys
    rw [List.pairwise_cons] at this ⊢
    exact ⟨fun x hx => this.1 x hx, this.2⟩
  · intro x y hx hy hne hlx hly
    have key : ∀ z : Nat × OBlk, z ∈ (k, OBlk.cells t cs') :: r → z.2.Lies → ∃ o, (z.1, o) ∈ (k, OBlk.cells t cs) :: r ∧ o.Lies := by
      intro z hz hl
      rcases List.mem_cons.1 hz with rfl | hz
      · exact ⟨_, List.mem_cons_self, trivial⟩
      · exact ⟨z.2, List.mem_cons_of_mem _ hz, hl⟩
    obtain ⟨o1, m1, l1⟩ := key x hx hlx
    obtain ⟨o2, m2, l2⟩ := key y hy hly
    exact g.apart (x.1, o1) (y.1, o2) m1 m2 hne l1 l2

noncomputable def cvOf (ds : Nat → D) : Nat → List CL → List CV
  | _, [] => []
  | i, .int n :: r => .int n :: cvOf ds i r
  | i, .bool n :: r => .bool n :: cvOf ds i r
  | i, .lst _ l :: r => .dat ((ds i).like l) :: cvOf ds (i + 1) r
end Sx
end
section
/- Layer 21: the play of a group: what stays true of nodes and writes (no program in sight). -/
namespace Sx
open Go

/-- A member in order. -/
structure MbOk (m : Mb) : Prop where
  r : 0 ≤ m.round ∧ m.round ≤ 1073741824
  u : 0 ≤ m.upto ∧ m.upto ≤ 1073741824
  t : 0 ≤ m.thawed ∧ m.thawed ≤ m.round
  p : 0 ≤ m.position ∧ m.position ≤ m.issued ∧ m.issued ≤ 4096
  fh : m.frozen = false → m.held = []
  ws : m.waiting.Pairwise (· < ·)
  wi : ∀ x, x ∈ m.waiting → 0 ≤ x ∧ x < m.issued
  hn : m.held.Nodup
  hi : ∀ x, x ∈ m.held → (0 ≤ x ∧ x < m.issued) ∧ x ∉ m.waiting

theorem MbOk.check {m : Mb} (h : MbOk m) : checkMb m = 0 := by
  unfold checkMb
  have h1 : headMb m = true := by
    simp only [headMb, okTime, decide_eq_true_eq, Bool.and_eq_false_imp, decide_eq_false_iff_not]
    have := h.r; have := h.u; have := h.t; have := h.p
    rintro (h | h | h | h | h | h | h | ⟨h1, h2⟩)
    · omega
    · omega
    · omega
    · omega
    · omega
    · omega
    · omega
    · exact h2 (h.fh h1)
  have h2 : (List.range m.waiting.length).any (badW m.issued m.waiting) = false := by
    rw [List.any_eq_false]
    intro i hi
    have hi := List.mem_range.1 hi
    have hg : m.waiting.getD i 0 = m.waiting[i] := by simp [hi]
    have hm := h.wi _ (List.getElem_mem hi)
    simp only [badW, hg, Bool.or_eq_true, Bool.and_eq_true, decide_eq_true_eq, not_or, not_and]
    refine ⟨⟨by omega, by omega⟩, fun h0 => ?_⟩
    have hg' : m.waiting.getD (i - 1) 0 = m.waiting[i - 1] := by simp [show i - 1 < m.waiting.length by omega]
    rw [hg']
    have := List.pairwise_iff_getElem.1 h.ws (i - 1) i (by omega) hi (by omega)
    omega
  have h3 : (List.range m.held.length).any (badH m.issued m.waiting m.held) = false := by
    rw [List.any_eq_false]
    intro i hi
    have hi := List.mem_range.1 hi
    have hg : m.held.getD i 0 = m.held[i] := by simp [hi]
    have hm := h.hi _ (List.getElem_mem hi)
    simp only [badH, hg, Bool.or_eq_true, decide_eq_true_eq, not_or, Bool.not_eq_true]
    refine ⟨⟨⟨by omega, by omega⟩, ?_⟩, ?_⟩
    · rw [Bool.eq_false_iff]
      intro hc
      have hc := List.contains_iff_mem.1 hc
      obtain ⟨j, hj, he⟩ := List.mem_take_iff_getElem.1 hc
      have := List.pairwise_iff_getElem.1 h.hn j i (by omega) hi (by omega)
      exact this he
    · rw [Bool.eq_false_iff]
      intro hc
      exact hm.2 (List.contains_iff_mem.1 hc)
  rw [if_neg (by rw [h1]; decide), if_neg (by rw [h2]; decide), if_neg (by rw [h3]; decide)]

/-- A write that waits; that is held back; that is acknowledged. -/
def Wr.Waits (w : Wr) : Prop := w.durable = 0 ∧ w.acked = 0 ∧ w.times = 0
def Wr.Held (w : Wr) : Prop := 0 < w.durable ∧ w.acked = 0 ∧ w.times = 0
def Wr.Acked (w : Wr) : Prop := 0 < w.durable ∧ 0 < w.acked ∧ w.times = 1

/-- A node and its writes. -/
structure NodeOk (m : Mb) (w : List Wr) : Prop where
  ok : MbOk m
  len : m.issued = w.length
  wait : ∀ x : Nat, (h : x < w.length) → (x : Int) ∈ m.waiting → w[x].Waits
  held : ∀ x : Nat, (h : x < w.length) → (x : Int) ∈ m.held → w[x].Held
  ackd : ∀ x : Nat, (h : x < w.length) → (x : Int) ∉ m.waiting → (x : Int) ∉ m.held → w[x].Acked

/-- What acknowledging a set of held writes does. -/
theorem ackW_spec (clk : Int) : ∀ (l : List Int) (w : List Wr), l.Nodup → (∀ x, x ∈ l → 0 ≤ x ∧ ∃ h : x.toNat < w.length, 0 < w[x.toNat].durable ∧ w[x.toNat].times = 0) →
    (ackW clk false l w).2 = true ∧ ∃ hl : (ackW clk false l w).1.length = w.length, ∀ i : Nat, (h : i < w.length) →
      (ackW clk false l w).1[i]'(by rw [hl]; exact h) = if (i : Int) ∈ l then { w[i] with acked := clk, times := 1 } else w[i]
  | [], w, _, _ => ⟨rfl, rfl, fun i h => by simp [ackW]⟩
  | x :: l, w, hn, hx => by
    obtain ⟨hx0, hxl, hd, ht⟩ := hx x List.mem_cons_self
    rw [List.nodup_cons] at hn
    have hg : w.getD x.toNat ⟨0, 0, 0, 0⟩ = w[x.toNat] := by simp [hxl]
    have hw1 : IntKind.i64.wrap (w[x.toNat].times + 1) = 1 := by rw [ht]; rfl
    have ih := ackW_spec clk l (w.set x.toNat { w[x.toNat] with acked := clk, times := 1 }) hn.2 (fun y hy => by
      obtain ⟨hy0, hyl, hyd, hyt⟩ := hx y (List.mem_cons_of_mem _ hy)
      have hne : x ≠ y := fun e => hn.1 (e ▸ hy)
      refine ⟨hy0, by rw [List.length_set]; exact hyl, ?_⟩
      rw [List.getElem_set_ne (by omega)]
      exact ⟨hyd, hyt⟩)
    obtain ⟨i1, i2, i3⟩ := ih
    have e : ackW clk false (x :: l) w = ((ackW clk false l (w.set x.toNat { w[x.toNat] with acked := clk, times := 1 })).1, true && (ackW clk false l (w.set x.toNat { w[x.toNat] with acked := clk, times := 1 })).2) := by
      conv => lhs; unfold ackW
      rw [if_neg (by omega)]
      simp only [hg, hw1]
      have hd' : decide (w[x.toNat].durable = 0) = false := decide_eq_false (by omega)
      rw [hd']
      rfl
    refine ⟨by rw [e]; simp only [i1]; rfl, by rw [e]; simp only [i2, List.length_set], fun i hi => ?_⟩
    have hh := i3 i (by rw [List.length_set]; exact hi)
    simp only [e]
    rw [hh]
    by_cases hxi : (i : Int) = x
    · have : x.toNat = i := by omega
      subst this
      have hnl : ¬((x.toNat : Int) ∈ l) := by rw [hxi]; exact hn.1
      rw [if_neg hnl, if_pos (by rw [hxi]; exact List.mem_cons_self)]
      simp
    · have hne : ¬x.toNat = i := by omega
      simp only [List.mem_cons, hxi, false_or]
      simp only [List.getElem_set_ne hne]

/-- What a member does without touching its waiting writes: nothing to its held ones, or all of them are acknowledged. -/
structure Mstep (m m' : Mb) (acks : List Int) : Prop where
  ok : MbOk m'
  iss : m'.issued = m.issued
  wait : m'.waiting = m.waiting
  how : (acks = [] ∧ m'.held = m.held) ∨ (acks = m.held ∧ m'.held = [] ∧ m'.frozen = false)

theorem NodeOk.mstep {m m' : Mb} {w : List Wr} {acks : List Int} {clk : Int} (h : NodeOk m w) (hc : w ≠ [] → 0 < clk) (s : Mstep m m' acks) :
    NodeOk m' (ackW clk m'.frozen acks w).1 ∧ (ackW clk m'.frozen acks w).2 = true := by
  rcases s.how with ⟨h1, h2⟩ | ⟨h1, h2, h3⟩
  · subst h1
    exact ⟨⟨s.ok, s.iss.trans h.len, fun x hx hm => h.wait x hx (s.wait ▸ hm), fun x hx hm => h.held x hx (h2 ▸ hm), fun x hx hm hm2 => h.ackd x hx (s.wait ▸ hm) (h2 ▸ hm2)⟩, rfl⟩
  · subst h1
    rw [h3]
    have hin : ∀ x, x ∈ m.held → 0 ≤ x ∧ ∃ h : x.toNat < w.length, 0 < w[x.toNat].durable ∧ w[x.toNat].times = 0 := fun x hx => by
      obtain ⟨⟨a, b⟩, _⟩ := h.ok.hi x hx
      have hl : x.toNat < w.length := by have := h.len; omega
      have := h.held x.toNat hl (by rw [Int.toNat_of_nonneg a]; exact hx)
      exact ⟨a, hl, this.1, this.2.2⟩
    obtain ⟨a1, a2, a3⟩ := ackW_spec clk m.held w h.ok.hn hin
    refine ⟨⟨s.ok, s.iss.trans (h.len.trans (by rw [a2])), fun x hx hm => ?_, fun x hx hm => ?_, fun x hx hm _ => ?_⟩, a1⟩
    · rw [a2] at hx
      rw [s.wait] at hm
      rw [a3 x hx, if_neg (fun hh => (h.ok.hi _ hh).2 hm)]
      exact h.wait x hx hm
    · rw [h2] at hm; cases hm
    · rw [a2] at hx
      rw [s.wait] at hm
      rw [a3 x hx]
      by_cases hh : (x : Int) ∈ m.held
      · rw [if_pos hh]
        exact ⟨(h.held x hx hh).1, hc (by rintro rfl; simp at hx), rfl⟩
      · rw [if_neg hh]
        exact h.ackd x hx hm hh

theorem thaw_step {m : Mb} (h : MbOk m) {m' : Mb} (ht : m' = { m with frozen := false, held := [] }) : Mstep m m' m.held := by
  subst ht
  exact ⟨⟨h.r, h.u, h.t, h.p, fun _ => rfl, h.ws, h.wi, List.nodup_nil, fun x hx => by cases hx⟩, rfl, rfl, .inr ⟨rfl, rfl, rfl⟩⟩
theorem same_step {m : Mb} (h : MbOk m) : Mstep m m [] := ⟨h, rfl, rfl, .inl ⟨rfl, rfl⟩⟩

theorem rel_step {m : Mb} (h : MbOk m) (now : Int) : Mstep m (relMb m now).1 (relMb m now).2 := by
  unfold relMb
  split
  · exact same_step h
  · exact thaw_step h rfl

theorem end_step {m : Mb} (h : MbOk m) (now : Int) (g : Msg) : Mstep m (endMb m now g).1 (endMb m now g).2.1 := by
  unfold endMb
  split
  · exact same_step h
  · split
    · refine ⟨⟨h.r, h.u, ⟨h.r.1, Int.le_refl _⟩, h.p, fun _ => rfl, h.ws, h.wi, List.nodup_nil, fun x hx => by cases hx⟩, rfl, rfl, .inr ⟨rfl, rfl, rfl⟩⟩
    · exact thaw_step h rfl

theorem clampT_rng {lo n : Int} (h : 0 ≤ lo) (h2 : lo ≤ 1073741824) : lo ≤ clampT lo n ∧ clampT lo n ≤ 1073741824 := by unfold clampT; omega

theorem obey_step {m : Mb} (h : MbOk m) (now p : Int) (g : Msg) : Mstep m (obeyMb m now p g).1 (obeyMb m now p g).2.1 := by
  have c0 := clampT_rng (lo := 0) (n := now) (by omega) (by omega)
  have c1 := clampT_rng (lo := 1) (n := p) (by omega) (by omega)
  unfold obeyMb
  split
  · exact same_step h
  · rename_i hc
    simp only [not_or, ne_eq, Decidable.not_not] at hc
    split
    · split
      · rename_i hg
        have := h.t; have := h.r; have := h.p
        exact ⟨⟨⟨by simp only; omega, by simp only; omega⟩, ⟨by simp only; omega, by simp only; omega⟩, ⟨by simp only; omega, by simp only; omega⟩, ⟨by simp only; omega, by simp only; omega, by simp only; omega⟩, fun hf => (by cases hf), h.ws, h.wi, h.hn, h.hi⟩, rfl, rfl, .inl ⟨rfl, rfl⟩⟩
      · split
        · exact same_step h
        · exact same_step h
    · split
      · split
        · exact end_step h _ _
        · split
          · exact same_step h
          · exact same_step h
      · split
        · split
          · exact thaw_step h rfl
          · exact same_step h
        · exact same_step h
end Sx
end
section
/- Layer 21: the play of a group: every step keeps it in order (no program in sight). -/
namespace Sx
open Go

theorem issue_node {m : Mb} {w : List Wr} (h : NodeOk m w) (hl : m.issued < 4096) (clk : Int) :
    NodeOk (issueMb m).1 (w ++ [⟨clk, 0, 0, 0⟩]) ∧ (issueMb m).2 = w.length := by
  have e : issueMb m = ({ m with waiting := m.waiting ++ [m.issued], issued := m.issued + 1 }, m.issued) := issue_ok h.ok.check (by omega)
  rw [e]
  have hlen := h.len
  have hp := h.ok.p
  refine ⟨⟨⟨h.ok.r, h.ok.u, h.ok.t, ⟨hp.1, by simp only; omega, by simp only; omega⟩, h.ok.fh, ?_, ?_, h.ok.hn, ?_⟩, ?_, ?_, ?_, ?_⟩, hlen⟩
  · simp only
    rw [List.pairwise_append]
    refine ⟨h.ok.ws, List.pairwise_singleton _ _, fun a ha b hb => ?_⟩
    rw [List.mem_singleton.1 hb]
    exact (h.ok.wi a ha).2
  · intro x hx
    simp only at hx ⊢
    rcases List.mem_append.1 hx with hx | hx
    · have := h.ok.wi x hx; omega
    · rw [List.mem_singleton.1 hx]; omega
  · intro x hx
    simp only at hx ⊢
    obtain ⟨a, b⟩ := h.ok.hi x hx
    refine ⟨by omega, fun hm => ?_⟩
    rcases List.mem_append.1 hm with hm | hm
    · exact b hm
    · have := List.mem_singleton.1 hm; omega
  · simp only [List.length_append, List.length_singleton]; omega
  · intro x hx hm
    simp only at hm
    by_cases hxl : x < w.length
    · rw [List.getElem_append_left hxl]
      refine h.wait x hxl ?_
      rcases List.mem_append.1 hm with hm | hm
      · exact hm
      · have := List.mem_singleton.1 hm; omega
    · rw [List.getElem_append_right (by omega)]
      simp [Wr.Waits]
  · intro x hx hm
    simp only at hm
    have := (h.ok.hi _ hm).1
    have hxl : x < w.length := by omega
    rw [List.getElem_append_left hxl]
    exact h.held x hxl hm
  · intro x hx hm hm2
    simp only at hm hm2
    have hxl : x < w.length := by
      simp only [List.length_append, List.length_singleton] at hx
      rcases Nat.lt_or_ge x w.length with h1 | h1
      · exact h1
      · exfalso
        apply hm
        apply List.mem_append_right
        rw [List.mem_singleton]
        omega
    rw [List.getElem_append_left hxl]
    exact h.ackd x hxl (fun hh => hm (List.mem_append_left _ hh)) hm2

theorem dur_node {m : Mb} {w : List Wr} (h : NodeOk m w) {x : Nat} (hx : (x : Int) ∈ m.waiting) {clk : Int} (hc : 0 < clk) (hxl : x < w.length) :
    NodeOk (durMb m x).1 (ackW clk (durMb m x).1.frozen (durMb m x).2.1 (w.set x { w[x] with durable := clk })).1 ∧
    (ackW clk (durMb m x).1.frozen (durMb m x).2.1 (w.set x { w[x] with durable := clk })).2 = true ∧ (durMb m x).2.2 = 0 ∧ (durMb m x).1.frozen = m.frozen := by
  have hk := h.ok.check
  have hcon : m.waiting.contains (x : Int) = true := List.contains_iff_mem.2 hx
  have hw := h.wait x hxl hx
  have hfm : ∀ y, y ∈ m.waiting.filter (fun y => y != (x : Int)) ↔ y ∈ m.waiting ∧ y ≠ x := fun y => by simp [List.mem_filter]
  have hpw := h.ok.ws.filter (fun y => y != (x : Int))
  cases hf : m.frozen with
  | true =>
    rw [dur_held hk hcon hf]
    refine ⟨⟨⟨h.ok.r, h.ok.u, h.ok.t, h.ok.p, fun hh => ?_, hpw, fun y hy => h.ok.wi y ((hfm y).1 hy).1, ?_, ?_⟩, ?_, ?_, ?_, ?_⟩, rfl, rfl, hf⟩
    · simp only [hf] at hh; cases hh
    · simp only
      rw [List.nodup_append]
      refine ⟨h.ok.hn, by simp, fun a ha b hb => ?_⟩
      rw [List.mem_singleton.1 hb]
      rintro rfl
      exact (h.ok.hi _ ha).2 hx
    · intro y hy
      simp only at hy ⊢
      rcases List.mem_append.1 hy with hy | hy
      · obtain ⟨a, b⟩ := h.ok.hi y hy
        exact ⟨a, fun hm => b ((hfm y).1 hm).1⟩
      · rw [List.mem_singleton.1 hy]
        exact ⟨h.ok.wi _ hx, fun hm => ((hfm _).1 hm).2 rfl⟩
    · simp only [ackW, List.length_set]; exact h.len
    · intro y hy hm
      simp only [ackW, List.length_set] at hy ⊢
      simp only at hm
      obtain ⟨hm1, hm2⟩ := (hfm _).1 hm
      rw [List.getElem_set_ne (by omega)]
      exact h.wait y hy hm1
    · intro y hy hm
      simp only [ackW, List.length_set] at hy ⊢
      simp only at hm
      by_cases hyx : x = y
      · subst hyx
        rw [List.getElem_set_self]
        exact ⟨hc, hw.2.1, hw.2.2⟩
      · rw [List.getElem_set_ne hyx]
        refine h.held y hy ?_
        rcases List.mem_append.1 hm with hm | hm
        · exact hm
        · have := List.mem_singleton.1 hm; omega
    · intro y hy hm hm2
      simp only [ackW, List.length_set] at hy ⊢
      simp only at hm hm2
      have hyx : ¬x = y := fun e => hm2 (by subst e; exact List.mem_append_right _ (List.mem_singleton.2 rfl))
      rw [List.getElem_set_ne hyx]
      exact h.ackd y hy (fun hh => hm ((hfm _).2 ⟨hh, by omega⟩)) (fun hh => hm2 (List.mem_append_left _ hh))
  | false =>
    rw [dur_free hk hcon hf]
    have hheld := h.ok.fh hf
    have hspec := ackW_spec clk [(x : Int)] (w.set x { w[x] with durable := clk }) (by simp) (fun y hy => by
      rw [List.mem_singleton.1 hy]
      refine ⟨by omega, by rw [List.length_set]; simpa using hxl, ?_⟩
      simp only [Int.toNat_natCast, List.getElem_set_self]
      exact ⟨hc, hw.2.2⟩)
    obtain ⟨a1, a2, a3⟩ := hspec
    simp only [hf]
    rw [List.length_set] at a2
    refine ⟨⟨⟨h.ok.r, h.ok.u, h.ok.t, h.ok.p, fun _ => hheld, hpw, fun y hy => h.ok.wi y ((hfm y).1 hy).1, h.ok.hn, fun y hy => ?_⟩, ?_, ?_, ?_, ?_⟩, a1, trivial, trivial⟩
    · simp only [hheld] at hy; cases hy
    · simp only [a2]; exact h.len
    · intro y hy hm
      rw [a2] at hy
      simp only at hm
      obtain ⟨hm1, hm2⟩ := (hfm _).1 hm
      rw [a3 y (by rw [List.length_set]; exact hy), if_neg (by rw [List.mem_singleton]; exact hm2), List.getElem_set_ne (by omega)]
      exact h.wait y hy hm1
    · intro y hy hm
      simp only [hheld] at hm; cases hm
    · intro y hy hm hm2
      rw [a2] at hy
      simp only at hm hm2
      rw [a3 y (by rw [List.length_set]; exact hy)]
      by_cases hyx : x = y
      · subst hyx
        rw [if_pos (List.mem_singleton.2 rfl), List.getElem_set_self]
        exact ⟨hc, hc, rfl⟩
      · rw [if_neg (by rw [List.mem_singleton]; omega), List.getElem_set_ne hyx]
        exact h.ackd y hy (fun hh => hm ((hfm _).2 ⟨hh, by omega⟩)) hm2

/-- A coordinator of three nodes in order. -/
structure CoOk (c : Co) (t : Nat) : Prop where
  ok : checkCo c = 0
  n : c.nodes = 3
  r : c.round ≤ t

/-- A message between the coordinator and a node. -/
def MsgOk (m : Msg) : Prop := ((0 ≤ m.to ∧ m.to ≤ 2) ∧ m.frm = 3) ∨ (m.to = 3 ∧ 0 ≤ m.frm ∧ m.frm ≤ 2)

theorem msgsTo_ok (r k : Int) : (msgsTo 3 r k).length = 3 ∧ ∀ m, m ∈ msgsTo 3 r k → MsgOk m := by
  refine ⟨by simp [msgsTo], fun m hm => ?_⟩
  simp only [msgsTo, List.mem_map, List.mem_range] at hm
  obtain ⟨i, hi, rfl⟩ := hm
  have : i < 3 := hi
  exact .inl ⟨⟨by simp only; omega, by simp only; omega⟩, rfl⟩

theorem ansTo_ok {g : Msg} (h : (0 ≤ g.to ∧ g.to ≤ 2) ∧ g.frm = 3) (k v : Int) : (ansTo g k v).length = 1 ∧ ∀ m, m ∈ ansTo g k v → MsgOk m := by
  refine ⟨rfl, fun m hm => ?_⟩
  rw [List.mem_singleton.1 hm]
  exact .inr ⟨h.2, h.1⟩

theorem endMb_msgs {g : Msg} (h : (0 ≤ g.to ∧ g.to ≤ 2) ∧ g.frm = 3) (m : Mb) (now : Int) : (endMb m now g).2.2.length ≤ 3 ∧ ∀ x, x ∈ (endMb m now g).2.2 → MsgOk x := by
  unfold endMb
  split
  · exact ⟨by simp [ansTo], (ansTo_ok h _ _).2⟩
  · split
    · exact ⟨by simp [ansTo], (ansTo_ok h _ _).2⟩
    · exact ⟨by simp [ansTo], (ansTo_ok h _ _).2⟩

theorem obeyMb_msgs {g : Msg} (h : (0 ≤ g.to ∧ g.to ≤ 2) ∧ g.frm = 3) (m : Mb) (now p : Int) : (obeyMb m now p g).2.2.length ≤ 3 ∧ ∀ x, x ∈ (obeyMb m now p g).2.2 → MsgOk x := by
  have nil : ([] : List Msg).length ≤ 3 ∧ ∀ x, x ∈ ([] : List Msg) → MsgOk x := ⟨Nat.zero_le _, fun x hx => by cases hx⟩
  have ans : ∀ k v, (ansTo g k v).length ≤ 3 ∧ ∀ x, x ∈ ansTo g k v → MsgOk x := fun k v => ⟨by simp [ansTo], (ansTo_ok h k v).2⟩
  unfold obeyMb
  repeat' split
  all_goals first | exact nil | exact ans _ _ | exact endMb_msgs h _ _

theorem checkCo_mk {n r p dl : Int} {ps : List Int} {ss : List Bool} {v : Bool} (h : (1 ≤ n ∧ n ≤ 8) ∧ (0 ≤ r ∧ r ≤ 1073741824) ∧ (0 ≤ dl ∧ dl ≤ 1073741824) ∧ (0 ≤ p ∧ p ≤ 2) ∧ (ps.length : Int) = n ∧ (ss.length : Int) = n ∧ (v = true → p = 0) ∧ ps.any badPos = false) :
    checkCo ⟨n, r, p, dl, ps, ss, v⟩ = 0 := checkCo_zero.2 h

theorem giveUp_ok {c : Co} {t : Nat} (h : CoOk c t) : CoOk ⟨c.nodes, c.round, 0, c.deadline, c.positions, c.seen, false⟩ t := by
  obtain ⟨h1, h2, h3⟩ := h
  have hz := checkCo_zero.1 (show checkCo ⟨c.nodes, c.round, c.phase, c.deadline, c.positions, c.seen, c.valid⟩ = 0 from h1)
  exact ⟨checkCo_mk ⟨hz.1, hz.2.1, hz.2.2.1, ⟨by omega, by omega⟩, hz.2.2.2.2.1, hz.2.2.2.2.2.1, fun h => (by cases h), hz.2.2.2.2.2.2.2⟩, h2, h3⟩

theorem expire_ok {c : Co} {t : Nat} (h : CoOk c t) (now : Int) : CoOk (expireCo c now).1 t ∧ (expireCo c now).2.length ≤ 3 ∧ ∀ m, m ∈ (expireCo c now).2 → MsgOk m := by
  unfold expireCo
  split
  · exact ⟨h, Nat.zero_le _, fun m hm => by cases hm⟩
  · have hm := msgsTo_ok c.round 24
    refine ⟨giveUp_ok h, ?_, ?_⟩
    · simp only [giveUpCo, h.n]; exact Nat.le_of_eq hm.1
    · simp only [giveUpCo, h.n]; exact hm.2

theorem any_set {ps : List Int} {i : Nat} {v : Int} (h : ps.any badPos = false) (hv : badPos v = false) : (ps.set i v).any badPos = false := by
  rw [List.any_eq_false] at h ⊢
  intro x hx
  rcases List.mem_or_eq_of_mem_set hx with hx | hx
  · exact h x hx
  · rw [hx, hv]; decide

theorem collect_ok {c : Co} {t : Nat} (h : CoOk c t) (now : Int) (m : Msg) : CoOk (collectCo c now m).1 t ∧ (collectCo c now m).2.length ≤ 3 ∧ ∀ x, x ∈ (collectCo c now m).2 → MsgOk x := by
  have nil : CoOk c t ∧ ([] : List Msg).length ≤ 3 ∧ ∀ x, x ∈ ([] : List Msg) → MsgOk x := ⟨h, Nat.zero_le _, fun x hx => by cases hx⟩
  by_cases hb : ¬checkCo c = 0 ∨ c.phase = 0 ∨ now ≥ c.deadline ∨ m.frm < 0 ∨ m.frm ≥ c.nodes ∨ ¬m.number = c.round
  · rw [coll_bad hb]; exact nil
  · rw [coll_go hb rfl rfl]
    obtain ⟨h1, h2, h3⟩ := h
    have hz := checkCo_zero.1 (show checkCo ⟨c.nodes, c.round, c.phase, c.deadline, c.positions, c.seen, c.valid⟩ = 0 from h1)
    simp only [not_or, Decidable.not_not] at hb
    have hv0 : c.valid = true → False := fun hv => hb.2.1 (hz.2.2.2.2.2.2.1 hv)
    unfold collGo
    repeat' split
    all_goals first
      | exact nil
      | skip
    · rename_i hk hc hal
      simp only [not_or] at hc
      have hbv : badPos m.value = false := by simp only [badPos, Bool.or_eq_false_iff, decide_eq_false_iff_not]; omega
      refine ⟨⟨checkCo_mk ⟨hz.1, hz.2.1, hz.2.2.1, ⟨by omega, by omega⟩, by rw [List.length_set]; exact hz.2.2.2.2.1, by rw [List.length_replicate]; have := hz.1; omega, fun hv => (hv0 hv).elim, any_set hz.2.2.2.2.2.2.2 hbv⟩, h2, h3⟩, ?_, ?_⟩
      · simp only [h2]; exact Nat.le_of_eq (msgsTo_ok _ _).1
      · simp only [h2]; exact (msgsTo_ok _ _).2
    · rename_i hk hc hal
      simp only [not_or] at hc
      have hbv : badPos m.value = false := by simp only [badPos, Bool.or_eq_false_iff, decide_eq_false_iff_not]; omega
      exact ⟨⟨checkCo_mk ⟨hz.1, hz.2.1, hz.2.2.1, hz.2.2.2.1, by rw [List.length_set]; exact hz.2.2.2.2.1, by rw [List.length_set]; exact hz.2.2.2.2.2.1, fun hv => (hv0 hv).elim, any_set hz.2.2.2.2.2.2.2 hbv⟩, h2, h3⟩, Nat.zero_le _, fun x hx => by cases hx⟩
    · refine ⟨giveUp_ok ⟨h1, h2, h3⟩, ?_, ?_⟩
      · simp only [h2]; exact Nat.le_of_eq (msgsTo_ok _ _).1
      · simp only [h2]; exact (msgsTo_ok _ _).2
    · exact ⟨⟨checkCo_mk ⟨hz.1, hz.2.1, hz.2.2.1, ⟨by omega, by omega⟩, hz.2.2.2.2.1, by rw [List.length_set]; exact hz.2.2.2.2.2.1, fun _ => rfl, hz.2.2.2.2.2.2.2⟩, h2, h3⟩, Nat.zero_le _, fun x hx => by cases hx⟩
    · exact ⟨⟨checkCo_mk ⟨hz.1, hz.2.1, hz.2.2.1, hz.2.2.2.1, hz.2.2.2.2.1, by rw [List.length_set]; exact hz.2.2.2.2.2.1, hz.2.2.2.2.2.2.1, hz.2.2.2.2.2.2.2⟩, h2, h3⟩, Nat.zero_le _, fun x hx => by cases hx⟩

theorem start_ok {c : Co} {t : Nat} (h : CoOk c t) {now : Int} (h0 : 0 ≤ now) (h1 : now ≤ 1000000) (ht : t ≤ 1000000) :
    (startCo c now 20).2.2 = 26 ∨ ((startCo c now 20).2.2 = 0 ∧ CoOk (startCo c now 20).1 (t + 1) ∧ (startCo c now 20).2.1.length ≤ 3 ∧ ∀ m, m ∈ (startCo c now 20).2.1 → MsgOk m) := by
  obtain ⟨h1', h2, h3⟩ := h
  have hc : checkCo ⟨c.nodes, c.round, c.phase, c.deadline, c.positions, c.seen, c.valid⟩ = 0 := h1'
  have hz := checkCo_zero.1 hc
  have e := startCo_eq (now := now) (patience := 20) hc
  have e : startCo c now 20 = _ := e
  rw [e, if_neg (by omega)]
  split
  · exact .inl rfl
  · rw [if_neg (by omega)]
    right
    have hr : (List.replicate c.nodes.toNat (0 : Int)).any badPos = false := by
      rw [List.any_eq_false]; intro x hx; rw [List.eq_of_mem_replicate hx]; decide
    refine ⟨rfl, ⟨checkCo_mk ⟨hz.1, ⟨by omega, by omega⟩, ⟨by omega, by omega⟩, ⟨by omega, by omega⟩, by rw [List.length_replicate]; have := hz.1; omega, by rw [List.length_replicate]; have := hz.1; omega, fun h => (by cases h), hr⟩, h2, by simp only; omega⟩, ?_, ?_⟩
    · simp only [h2]; exact Nat.le_of_eq (msgsTo_ok _ _).1
    · simp only [h2]; exact (msgsTo_ok _ _).2
end Sx
end
section
/- Layer 21: the play of a group: the invariant of its writes (no program in sight). -/
namespace Sx
open Go

/-- The group after t steps. -/
structure GrOk (g : Gr) (t : Nat) : Prop where
  c : CoOk g.c t
  node : ∀ i, NodeOk (g.node i) (g.wr i)
  fl : ∀ m, m ∈ g.flight → MsgOk m
  flen : g.flight.length ≤ 12 * t + 24
  now : 0 ≤ g.now ∧ g.now ≤ 5 * t + 200
  clock : g.clock = t
  right : g.right = true
  wlen : ∀ i, (g.wr i).length ≤ t
  upto : ∀ i, (g.node i).upto ≤ g.now + 12

theorem upd_self {α : Type} (f : Fin 3 → α) (i : Fin 3) (v : α) : upd f i v i = v := if_pos rfl
theorem upd_ne {α : Type} {f : Fin 3 → α} {i j : Fin 3} {v : α} (h : j ≠ i) : upd f i v j = f j := if_neg h

/-- A member's step within the group. -/
theorem GrOk.mstep {g : Gr} {t : Nat} (h : GrOk g t) (i : Fin 3) {m' : Mb} {acks : List Int} (s : Mstep (g.node i) m' acks) (hu : m'.upto ≤ g.now + 12) :
    GrOk (ackG { g with node := upd g.node i m' } i acks) t := by
  have hn := (h.node i).mstep (clk := g.clock) (fun hne => by have := h.wlen i; have := List.length_pos_iff.2 hne; rw [h.clock]; omega) s
  obtain ⟨n1, n2⟩ := hn
  refine ⟨h.c, fun j => ?_, h.fl, h.flen, h.now, h.clock, ?_, fun j => ?_, fun j => ?_⟩
  · simp only [ackG, upd_self]
    by_cases hj : j = i
    · subst hj; rw [upd_self, upd_self]; exact n1
    · rw [upd_ne hj, upd_ne hj]; exact h.node j
  · simp only [ackG, upd_self, n2, h.right, Bool.and_true]
  · simp only [ackG, upd_self]
    by_cases hj : j = i
    · subst hj; rw [upd_self, ackW_len]; exact h.wlen j
    · rw [upd_ne hj]; exact h.wlen j
  · simp only [ackG]
    by_cases hj : j = i
    · subst hj; rw [upd_self]; exact hu
    · rw [upd_ne hj]; exact h.upto j

theorem GrOk.send {g : Gr} {t : Nat} {l : List Msg} {k : Nat} (h : GrOk g t) (hl : ∀ m, m ∈ l → MsgOk m) (hk : g.flight.length + l.length ≤ 12 * t + 24) : GrOk (sendG g l) t :=
  ⟨h.c, h.node, fun m hm => (List.mem_append.1 hm).elim (h.fl m) (hl m), by simp only [sendG, List.length_append]; exact hk, h.now, h.clock, h.right, h.wlen, h.upto⟩

theorem rel_upto (m : Mb) (now : Int) : (relMb m now).1.upto = m.upto := by
  unfold relMb; split <;> rfl

theorem GrOk.rel {g : Gr} {t : Nat} (h : GrOk g t) (i : Fin 3) : GrOk (relG g i) t :=
  h.mstep i (rel_step (h.node i).ok g.now) (by rw [rel_upto]; exact h.upto i)

theorem end_upto (m : Mb) (now : Int) (g : Msg) : (endMb m now g).1.upto = m.upto := by
  unfold endMb; split; · rfl
  split <;> rfl
theorem obey_upto {m : Mb} {now : Int} {g : Msg} (h0 : 0 ≤ now) (h : m.upto ≤ now + 12) : (obeyMb m now 12 g).1.upto ≤ now + 12 := by
  unfold obeyMb
  split
  · exact h
  · split
    · split
      · simp only [clampT]; omega
      · split <;> exact h
    · split
      · split
        · rw [end_upto]; exact h
        · split <;> exact h
      · split
        · split <;> exact h
        · exact h

theorem GrOk.obey {g : Gr} {t : Nat} (h : GrOk g t) (ht : 0 < t) (i : Fin 3) {m : Msg} (hm : (0 ≤ m.to ∧ m.to ≤ 2) ∧ m.frm = 3) (hk : g.flight.length + 3 ≤ 12 * t + 24) : GrOk (obeyG g m i) t := by
  have h1 := h.mstep i (obey_step (h.node i).ok g.now 12 m) (obey_upto h.now.1 (h.upto i))
  obtain ⟨m1, m2⟩ := obeyMb_msgs hm (g.node i) g.now 12
  exact GrOk.send (k := 0) h1 m2 (by have : (ackG { g with node := upd g.node i (obeyMb (g.node i) g.now 12 m).1 } i (obeyMb (g.node i) g.now 12 m).2.1).flight = g.flight := rfl
                                     rw [this]; omega)

theorem GrOk.coord {g : Gr} {t : Nat} (h : GrOk g t) {c : Co} (hc : CoOk c t) : GrOk { g with c := c } t := ⟨hc, h.node, h.fl, h.flen, h.now, h.clock, h.right, h.wlen, h.upto⟩

theorem GrOk.recv {g : Gr} {t : Nat} (h : GrOk g t) (ht : 0 < t) {m : Msg} (hm : MsgOk m) (hk : g.flight.length + 3 ≤ 12 * t + 24) : GrOk (recvG g m) t := by
  unfold recvG
  rcases hm with hm | ⟨hm, hm2⟩
  · rw [if_neg (by omega)]
    by_cases h0 : m.to = 0
    · rw [if_pos h0]; exact h.obey ht 0 hm hk
    · rw [if_neg h0]
      by_cases h1 : m.to = 1
      · rw [if_pos h1]; exact h.obey ht 1 hm hk
      · rw [if_neg h1, if_pos (by omega)]
        exact h.obey ht 2 hm hk
  · rw [if_pos hm]
    obtain ⟨c1, c2, c3⟩ := collect_ok h.c g.now m
    exact GrOk.send (k := 0) (h.coord c1) c3 (by simp only; omega)

theorem GrOk.flight {g : Gr} {t : Nat} (h : GrOk g t) (ht : 0 < t) (k w : Int) (hw : 0 ≤ w) (hk : g.flight.length + 3 ≤ 12 * t + 24) : GrOk (flightG g k w) t := by
  by_cases h0 : g.flight.length = 0
  · rw [flightG_nil h0]; exact h
  · have t0 : 0 ≤ Int.tmod w g.flight.length := Int.tmod_nonneg _ hw
    have t1 : Int.tmod w g.flight.length < g.flight.length := Int.tmod_lt_of_pos _ (by omega)
    obtain ⟨i, hi⟩ : ∃ i, (Int.tmod w g.flight.length).toNat = i := ⟨_, rfl⟩
    have hil : i < g.flight.length := by omega
    rw [flightG_go h0 hi rfl]
    have hm : MsgOk (g.flight.getD i noMsg) := by
      have e : g.flight.getD i noMsg = g.flight[i] := by simp [hil]
      rw [e]; exact h.fl _ (List.getElem_mem hil)
    have hg1 : GrOk (if Int.tmod k 7 = 4 then g else { g with flight := g.flight.take i ++ g.flight.drop (i + 1) }) t ∧ (if Int.tmod k 7 = 4 then g else { g with flight := g.flight.take i ++ g.flight.drop (i + 1) } : Gr).flight.length + 3 ≤ 12 * t + 24 := by
      split
      · exact ⟨h, hk⟩
      · refine ⟨⟨h.c, h.node, fun m hm => ?_, ?_, h.now, h.clock, h.right, h.wlen, h.upto⟩, ?_⟩
        · rcases List.mem_append.1 hm with hm | hm
          · exact h.fl m (List.mem_of_mem_take hm)
          · exact h.fl m (List.mem_of_mem_drop hm)
        · simp only [List.length_append, List.length_take, List.length_drop]; omega
        · simp only [List.length_append, List.length_take, List.length_drop]; omega
    split
    · exact hg1.1
    · exact hg1.1.recv ht hm hg1.2

theorem GrOk.tick {g : Gr} {t : Nat} (h : GrOk g t) (ht2 : t ≤ 1000) (n w : Int) (hw : U8 w) (hn : g.now + 5 ≤ 5 * t + 200) (hk : g.flight.length + 3 ≤ 12 * t + 24) : GrOk (tickG g n w) t := by
  have t0 : 0 ≤ Int.tmod w 5 := Int.tmod_nonneg _ hw.1
  have t1 : Int.tmod w 5 < 5 := Int.tmod_lt_of_pos _ (by decide)
  have h0 := h.now
  have e : IntKind.i64.wrap (g.now + (1 + Int.tmod w 5)) = g.now + (1 + Int.tmod w 5) := wrap64 (by omega) (by omega)
  obtain ⟨c1, c2, c3⟩ := expire_ok h.c (g.now + (1 + Int.tmod w 5))
  have h1 : GrOk (sendG { g with now := g.now + (1 + Int.tmod w 5), c := (expireCo g.c (g.now + (1 + Int.tmod w 5))).1 } (expireCo g.c (g.now + (1 + Int.tmod w 5))).2) t :=
    GrOk.send (k := 0) ⟨c1, h.node, h.fl, h.flen, ⟨by simp only; omega, by simp only; omega⟩, h.clock, h.right, h.wlen, fun i => by have := h.upto i; simp only; omega⟩ c3 (by simp only; omega)
  unfold tickG
  simp only [e]
  split
  · exact ((h1.rel 0).rel 1).rel 2
  · exact h1

theorem GrOk.issue {g : Gr} {t : Nat} (h : GrOk g (t + 1)) (ht2 : t ≤ 1000) (i : Fin 3) (hl : (g.wr i).length ≤ t) : GrOk (issueG g i) (t + 1) := by
  have hlen := (h.node i).len
  obtain ⟨n1, n2⟩ := issue_node (h.node i) (by omega) g.clock
  refine ⟨h.c, fun j => ?_, h.fl, h.flen, h.now, h.clock, ?_, fun j => ?_, fun j => ?_⟩
  · simp only [issueG]
    by_cases hj : j = i
    · subst hj; rw [upd_self, upd_self]; exact n1
    · rw [upd_ne hj, upd_ne hj]; exact h.node j
  · simp only [issueG, n2, h.right, decide_true, Bool.and_true]
  · simp only [issueG]
    by_cases hj : j = i
    · subst hj; rw [upd_self, List.length_append, List.length_singleton]; omega
    · rw [upd_ne hj]; exact h.wlen j
  · simp only [issueG]
    by_cases hj : j = i
    · subst hj; rw [upd_self, issue_ok (h.node j).ok.check (by omega)]; exact h.upto j
    · rw [upd_ne hj]; exact h.upto j

theorem dur_upto (m : Mb) (x : Int) (h : MbOk m) (hx : m.waiting.contains x = true) : (durMb m x).1.upto = m.upto := by
  cases hf : m.frozen with
  | true => rw [dur_held h.check hx hf]
  | false => rw [dur_free h.check hx hf]

theorem GrOk.dur {g : Gr} {t : Nat} (h : GrOk g t) (ht : 0 < t) (i : Fin 3) (w : Int) (hw : 0 ≤ w) : GrOk (durG g i w) t := by
  by_cases h0 : (g.node i).waiting.length = 0
  · rw [durG_nil h0]; exact h
  · have t0 : 0 ≤ Int.tmod w (g.node i).waiting.length := Int.tmod_nonneg _ hw
    have hpos : (0 : Int) < ((g.node i).waiting.length : Int) := by have := Nat.pos_of_ne_zero h0; omega
    have t1 : Int.tmod w (g.node i).waiting.length < (g.node i).waiting.length := Int.tmod_lt_of_pos _ hpos
    obtain ⟨k, hk⟩ : ∃ k, (Int.tmod w (g.node i).waiting.length).toNat = k := ⟨_, rfl⟩
    have hkl : k < (g.node i).waiting.length := by omega
    have hg : (g.node i).waiting.getD k 0 = (g.node i).waiting[k] := by simp [hkl]
    have hmem := List.getElem_mem hkl
    obtain ⟨x, hx⟩ : ∃ x, (g.node i).waiting[k] = x := ⟨_, rfl⟩
    rw [hx] at hg hmem
    have hn := h.node i
    have hin := hn.ok.wi x hmem
    have hlen := hn.len
    obtain ⟨y, rfl⟩ := Int.eq_ofNat_of_zero_le hin.1
    have hyl : y < (g.wr i).length := by omega
    have hneg : ¬((y : Int) < 0 ∨ (y : Int) ≥ ((g.wr i).length : Int)) := by omega
    have hg : (g.node i).waiting.getD k 0 = (y : Int) := hg
    rw [durG_go h0 hk hg, if_neg hneg]
    obtain ⟨d1, d2, d3, d4⟩ := dur_node hn hmem (clk := g.clock) (by rw [h.clock]; omega) hyl
    have hgd : (g.wr i).getD (Int.toNat (y : Int)) noWr = (g.wr i)[y] := by simp [hyl]
    simp only [Int.toNat_natCast] at hgd ⊢
    simp only [hgd]
    refine ⟨h.c, fun j => ?_, h.fl, h.flen, h.now, h.clock, ?_, fun j => ?_, fun j => ?_⟩
    · simp only [ackG, upd_self]
      by_cases hj : j = i
      · subst hj; rw [upd_self, upd_self]; exact d1
      · rw [upd_ne hj, upd_ne hj, upd_ne hj]; exact h.node j
    · simp only [ackG, upd_self, d2, d3, h.right, decide_true, Bool.and_true]
    · simp only [ackG, upd_self]
      by_cases hj : j = i
      · subst hj; rw [upd_self, ackW_len, List.length_set]; exact h.wlen j
      · rw [upd_ne hj, upd_ne hj]; exact h.wlen j
    · simp only [ackG]
      by_cases hj : j = i
      · subst hj; rw [upd_self, dur_upto _ _ hn.ok (List.contains_iff_mem.2 hmem)]; exact h.upto j
      · rw [upd_ne hj]; exact h.upto j

theorem GrOk.round {g : Gr} {t : Nat} (h : GrOk g (t + 1)) (hc : CoOk g.c t) (ht2 : t ≤ 1000) (hk : g.flight.length + 3 ≤ 12 * (t + 1) + 24) : GrOk (roundG g) (t + 1) := by
  have h0 := h.now
  unfold roundG
  rcases start_ok hc (now := g.now) h0.1 (by omega) (by omega) with h1 | ⟨h1, h2, h3, h4⟩
  · simp only [h1]
    exact ⟨h.c, h.node, h.fl, h.flen, h.now, h.clock, by simp only [h.right]; rfl, h.wlen, h.upto⟩
  · simp only [h1]
    have h5 : GrOk { g with c := (startCo g.c g.now 20).1, started := IntKind.i64.wrap (g.started + 1) } (t + 1) := ⟨h2, h.node, h.fl, h.flen, h.now, h.clock, h.right, h.wlen, h.upto⟩
    exact GrOk.send (k := 0) h5 h4 (by simp only; omega)

theorem GrOk.step {g : Gr} {t : Nat} (h : GrOk g t) (ht : t ≤ 900) {k n w : Int} (i : Fin 3) (hk : U8 k) (hn : U8 n) (hw : U8 w) (hnow : g.now ≤ 5 * t + 200) : GrOk (Sx.stepG g k i n w) (t + 1) := by
  have h0 := h.now
  have hfl := h.flen
  have hcl := h.clock
  have e : IntKind.i64.wrap (g.clock + 1) = ((t + 1 : Nat) : Int) := by rw [hcl, wrap64 (by omega) (by omega)]; omega
  have h1 : GrOk { g with clock := IntKind.i64.wrap (g.clock + 1) } (t + 1) :=
    ⟨⟨h.c.ok, h.c.n, by have := h.c.r; simp only; omega⟩, h.node, h.fl, by simp only; omega, ⟨h0.1, by simp only; omega⟩, e, h.right, fun i => by have := h.wlen i; simp only; omega, h.upto⟩
  unfold Sx.stepG
  simp only
  split
  · exact h1.issue (by omega) i (h.wlen i)
  · split
    · exact h1.dur (by omega) i w hw.1
    · split
      · exact h1.round h.c (by omega) (by simp only; omega)
      · split
        · exact h1.tick (by omega) n w hw (by simp only; omega) (by simp only; omega)
        · exact h1.flight (by omega) k w hw.1 (by simp only; omega)
end Sx
end
section
/- Layer 21: a group as cells. -/
open Go
namespace Sx

theorem cv_eq (g : Gr) (ds : Nat → D) : cvOf ds 0 g.cls = (CV.int g.c.nodes :: CV.int g.c.round :: CV.int g.c.phase :: CV.int g.c.deadline :: CV.dat ((ds 0).like g.c.positions) :: CV.dat ((ds 1).like g.c.seen) :: CV.bool g.c.valid :: CV.int (g.node 0).round :: CV.int (g.node 0).position :: CV.int (g.node 0).thawed :: CV.int (g.node 0).issued :: CV.bool (g.node 0).frozen :: CV.int (g.node 0).upto :: CV.dat ((ds 2).like (g.node 0).waiting) :: CV.dat ((ds 3).like (g.node 0).held) :: CV.int (g.node 1).round :: CV.int (g.node 1).position :: CV.int (g.node 1).thawed :: CV.int (g.node 1).issued :: CV.bool (g.node 1).frozen :: CV.int (g.node 1).upto :: CV.dat ((ds 4).like (g.node 1).waiting) :: CV.dat ((ds 5).like (g.node 1).held) :: CV.int (g.node 2).round :: CV.int (g.node 2).position :: CV.int (g.node 2).thawed :: CV.int (g.node 2).issued :: CV.bool (g.node 2).frozen :: CV.int (g.node 2).upto :: CV.dat ((ds 6).like (g.node 2).waiting) :: CV.dat ((ds 7).like (g.node 2).held) :: CV.dat ((ds 8).like g.flight) :: CV.dat ((ds 9).like (g.wr 0)) :: CV.dat ((ds 10).like (g.wr 1)) :: CV.dat ((ds 11).like (g.wr 2)) :: CV.int g.now :: CV.int g.clock :: CV.bool g.right :: CV.int g.started :: []) := rfl
theorem cv_shape (g : Gr) (ds : Nat → D) : ShapeC grK (cvOf ds 0 g.cls) := by
  rw [cv_eq]
  simp only [grK, ShapeC]
  exact ⟨_, _, rfl, _, _, rfl, _, _, rfl, _, _, rfl, _, _, rfl, _, _, rfl, _, _, rfl, _, _, rfl, _, _, rfl, _, _, rfl, _, _, rfl, _, _, rfl, _, _, rfl, _, _, rfl, _, _, rfl, _, _, rfl, _, _, rfl, _, _, rfl, _, _, rfl, _, _, rfl, _, _, rfl, _, _, rfl, _, _, rfl, _, _, rfl, _, _, rfl, _, _, rfl, _, _, rfl, _, _, rfl, _, _, rfl, _, _, rfl, _, _, rfl, _, _, rfl, _, _, rfl, _, _, rfl, _, _, rfl, _, _, rfl, _, _, rfl, _, _, rfl, _, _, rfl, rfl⟩
theorem tri_eta {α : Type} (f : Fin 3 → α) : tri (f 0) (f 1) (f 2) = f := by
  funext i
  match i with
  | 0 => rfl
  | 1 => rfl
  | 2 => rfl
theorem grOf_cv (g : Gr) (ds : Nat → D) : grOf (cvOf ds 0 g.cls) = g := by
  rw [cv_eq, grOf_eq]
  simp only [D.like_to]
  exact congr (congrArg (fun a b => (⟨g.c, a, g.flight, b, g.now, g.clock, g.right, g.started⟩ : Gr)) (tri_eta g.node)) (tri_eta g.wr)
theorem grRight_cv (g : Gr) (ds : Nat → D) (h : ∀ i, (g.node i).waiting.length ≤ 1048575 ∧ (g.node i).held.length ≤ 1048575 ∧ (g.wr i).length ≤ 1000000) (hf : g.flight.length ≤ 1000000) : GrRight (cvOf ds 0 g.cls) := by
  rw [cv_eq, grRight_eq]
  exact ⟨⟨D.like_is _ _, D.like_is _ _⟩, right_like_of (h 0).1 (h 0).2.1, right_like_of (h 1).1 (h 1).2.1, right_like_of (h 2).1 (h 2).2.1, ⟨D.like_is _ _, by rw [like_len]; exact hf⟩,
    ⟨D.like_is _ _, by rw [like_len]; exact (h 0).2.2⟩, ⟨D.like_is _ _, by rw [like_len]; exact (h 1).2.2⟩, ⟨D.like_is _ _, by rw [like_len]; exact (h 2).2.2⟩⟩

theorem len_ne {a : Int} : ∀ {l : List Int}, l.Nodup → l.length ≤ (l.filter fun x => x != a).length + 1
  | [], _ => Nat.zero_le _
  | b :: l, h => by
    rw [List.nodup_cons] at h
    rw [List.filter_cons]
    by_cases hb : b = a
    · subst hb
      have : l.filter (fun x => x != b) = l := List.filter_eq_self.2 fun x hx => by
        simp only [bne_iff_ne]
        rintro rfl
        exact h.1 hx
      simp [this]
    · have ih := len_ne (a := a) h.2
      simp [hb]
      exact ih
theorem range_len : ∀ {n : Nat} {l : List Int}, l.Nodup → (∀ x, x ∈ l → 0 ≤ x ∧ x < n) → l.length ≤ n
  | 0, l, _, h => by
    cases l with
    | nil => exact Nat.le_refl _
    | cons x r => have := h x List.mem_cons_self; omega
  | n + 1, l, hn, h => by
    have h1 := len_ne (a := (n : Int)) hn
    have h2 := range_len (n := n) (hn.filter fun x => x != (n : Int)) (fun x hx => by
      rw [List.mem_filter] at hx
      have := h x hx.1
      have hne : x ≠ n := by simpa using hx.2
      omega)
    omega
theorem GrOk.bounds {g : Gr} {t : Nat} (h : GrOk g t) (ht : t ≤ 1000) : (∀ i, (g.node i).waiting.length ≤ 1048575 ∧ (g.node i).held.length ≤ 1048575 ∧ (g.wr i).length ≤ 1000000) ∧ g.flight.length ≤ 999000 := by
  refine ⟨fun i => ?_, by have := h.flen; omega⟩
  have hn := h.node i
  have hl := h.wlen i
  have h1 : (g.node i).waiting.length ≤ (g.wr i).length := range_len (hn.ok.ws.imp (fun h => Int.ne_of_lt h)) (fun x hx => by have := hn.ok.wi x hx; have := hn.len; omega)
  have h2 : (g.node i).held.length ≤ (g.wr i).length := range_len hn.ok.hn (fun x hx => by have := (hn.ok.hi x hx).1; have := hn.len; omega)
  omega
end Sx
end
section
/- Layer 21: the play of a group: when all have thawed (no program in sight). -/
namespace Sx
open Go

theorem recv_now (g : Gr) (m : Msg) : (recvG g m).now = g.now := by
  unfold recvG
  repeat' split
  all_goals rfl
theorem flight_now (g : Gr) (k w : Int) : (flightG g k w).now = g.now := by
  unfold flightG
  split
  · rfl
  · simp only
    split
    · split <;> rfl
    · rw [recv_now]; split <;> rfl
theorem dur_now (g : Gr) (i : Fin 3) (w : Int) : (durG g i w).now = g.now := by
  unfold durG
  simp only
  split
  · rfl
  · split <;> rfl
theorem round_now (g : Gr) : (roundG g).now = g.now := by
  unfold roundG
  simp only
  split <;> rfl
theorem tick_now {g : Gr} {n w : Int} (hw : U8 w) (h0 : 0 ≤ g.now) (h1 : g.now ≤ 1000000) : (tickG g n w).now = g.now + (1 + Int.tmod w 5) := by
  have t0 : 0 ≤ Int.tmod w 5 := Int.tmod_nonneg _ hw.1
  have t1 : Int.tmod w 5 < 5 := Int.tmod_lt_of_pos _ (by decide)
  have e : IntKind.i64.wrap (g.now + (1 + Int.tmod w 5)) = g.now + (1 + Int.tmod w 5) := wrap64 (by omega) (by omega)
  unfold tickG
  simp only [e]
  split <;> rfl
theorem step_now {g : Gr} {k n w : Int} {i : Fin 3} (hw : U8 w) (h0 : 0 ≤ g.now) (h1 : g.now ≤ 1000000) : (Sx.stepG g k i n w).now ≤ g.now + 5 := by
  have t1 : Int.tmod w 5 < 5 := Int.tmod_lt_of_pos _ (by decide)
  unfold Sx.stepG
  simp only
  split
  · show g.now ≤ _; omega
  · split
    · rw [dur_now]; simp only; omega
    · split
      · rw [round_now]; simp only; omega
      · split
        · rw [tick_now hw (by simp only; omega) (by simp only; omega)]; simp only; omega
        · rw [flight_now]; simp only; omega

/-- Each write that became durable is acknowledged. -/
def Done (w : List Wr) : Prop := ∀ i : Nat, (h : i < w.length) → decide (w[i].durable > 0) = decide (w[i].acked > 0)

theorem NodeOk.done {m : Mb} {w : List Wr} (h : NodeOk m w) (hh : m.held = []) : Done w := by
  intro i hi
  by_cases hm : (i : Int) ∈ m.waiting
  · obtain ⟨a, b, c⟩ := h.wait i hi hm
    rw [a, b]
  · obtain ⟨a, b, c⟩ := h.ackd i hi hm (by rw [hh]; simp)
    rw [decide_eq_true a, decide_eq_true b]

theorem relMb_held {m : Mb} {now : Int} (h : MbOk m) (hu : m.upto ≤ now) : (relMb m now).1.held = [] := by
  unfold relMb
  split
  · rename_i hc
    rcases hc with hc | hc | hc
    · exact absurd h.check hc
    · exact h.fh hc
    · omega
  · rfl

theorem relG_node (g : Gr) (i j : Fin 3) : (relG g i).node j = if j = i then (relMb (g.node i) g.now).1 else g.node j := by
  simp only [relG, ackG]
  by_cases h : j = i
  · subst h; rw [upd_self, if_pos rfl]
  · rw [upd_ne h, if_neg h]
theorem relG_now (g : Gr) (i : Fin 3) : (relG g i).now = g.now := rfl

theorem relG_held {g : Gr} (hn : ∀ i, MbOk (g.node i)) (hu : ∀ i, (g.node i).upto ≤ g.now) : ∀ i, ((relG (relG (relG g 0) 1) 2).node i).held = [] := by
  intro i
  simp only [relG_node, relG_now]
  match i with
  | 0 => exact relMb_held (hn 0) (hu 0)
  | 1 => exact relMb_held (hn 1) (hu 1)
  | 2 => exact relMb_held (hn 2) (hu 2)

/-- At the end: all time has passed, all is acknowledged. -/
theorem last_tick {g : Gr} {t : Nat} (h : GrOk g t) (ht2 : t ≤ 900) (hnow : g.now ≤ 5 * t) (hfl : g.flight.length ≤ 12 * t) :
    GrOk (tickG { g with now := IntKind.i64.wrap (g.now + 100) } 1 0) t ∧ ∀ i, Done ((tickG { g with now := IntKind.i64.wrap (g.now + 100) } 1 0).wr i) := by
  have h0 := h.now
  have e : IntKind.i64.wrap (g.now + 100) = g.now + 100 := wrap64 (by omega) (by omega)
  rw [e]
  have u0 : U8 0 := ⟨by decide, by decide⟩
  have h1 : GrOk { g with now := g.now + 100 } t := ⟨h.c, h.node, h.fl, h.flen, ⟨by simp only; omega, by simp only; omega⟩, h.clock, h.right, h.wlen, fun i => by have := h.upto i; simp only; omega⟩
  have h2 := h1.tick (by omega) 1 0 u0 (by simp only; omega) (by simp only; omega)
  refine ⟨h2, fun i => (h2.node i).done ?_⟩
  have en := tick_now (g := { g with now := g.now + 100 }) (n := 1) u0 (by simp only; omega) (by simp only; omega)
  have e5 : IntKind.i64.wrap (g.now + 100 + (1 + Int.tmod 0 5)) = g.now + 101 := by
    rw [show (1 : Int) + Int.tmod 0 5 = 1 from rfl]
    rw [wrap64 (by omega) (by omega)]; omega
  unfold tickG
  simp only [e5]
  rw [if_pos (by decide)]
  refine relG_held (g := sendG { g with now := g.now + 101, c := (expireCo g.c (g.now + 101)).1 } (expireCo g.c (g.now + 101)).2) (fun j => (h.node j).ok) (fun j => ?_) i
  have := h.upto j
  show (g.node j).upto ≤ g.now + 101
  omega

theorem recv_fl (g : Gr) (m : Msg) : (recvG g m).flight.length ≤ g.flight.length + 8 := by
  have hc := (collectCo_len g.c g.now m).2.2.1
  have ho : ∀ i, (obeyG g m i).flight.length ≤ g.flight.length + 8 := fun i => by
    have := (obeyMb_len (g.node i) g.now 12 m).2.2.2.1
    simp only [obeyG, sendG, ackG, List.length_append]; omega
  unfold recvG
  split
  · simp only [sendG, List.length_append]; omega
  · split
    · exact ho 0
    · split
      · exact ho 1
      · split
        · exact ho 2
        · simp only; omega
theorem flight_fl (g : Gr) (k w : Int) : (flightG g k w).flight.length ≤ g.flight.length + 8 := by
  unfold flightG
  split
  · omega
  · simp only
    have hg : ∀ i, (if Int.tmod k 7 = 4 then g else { g with flight := g.flight.take i ++ g.flight.drop (i + 1) } : Gr).flight.length ≤ g.flight.length := fun i => by
      split
      · exact Nat.le_refl _
      · simp only [List.length_append, List.length_take, List.length_drop]; omega
    split
    · exact Nat.le_trans (hg _) (by omega)
    · exact Nat.le_trans (recv_fl _ _) (by have := hg (Int.tmod w g.flight.length).toNat; omega)
theorem dur_fl (g : Gr) (i : Fin 3) (w : Int) : (durG g i w).flight = g.flight := by
  unfold durG
  simp only
  split
  · rfl
  · split <;> rfl
theorem round_fl (g : Gr) : (roundG g).flight.length ≤ g.flight.length + 8 := by
  have hs := (startCo_len g.c g.now 20).2.2.1
  unfold roundG
  simp only
  split
  · simp only; omega
  · simp only [sendG, List.length_append]; omega
theorem tick_fl (g : Gr) (n w : Int) : (tickG g n w).flight.length ≤ g.flight.length + 8 := by
  have hx := (expireCo_len g.c (IntKind.i64.wrap (g.now + (1 + Int.tmod w 5)))).2.2.1
  unfold tickG
  simp only
  split
  · simp only [relG, ackG, sendG, List.length_append]; omega
  · simp only [sendG, List.length_append]; omega
theorem step_fl (g : Gr) (k n w : Int) (i : Fin 3) : (Sx.stepG g k i n w).flight.length ≤ g.flight.length + 8 := by
  unfold Sx.stepG
  simp only
  split
  · show g.flight.length ≤ _; omega
  · split
    · rw [dur_fl]; simp only; omega
    · split
      · exact round_fl _
      · split
        · exact tick_fl _ _ _
        · exact flight_fl _ _ _

/-- The start of a play. -/
def begG : Gr := ⟨⟨3, 0, 0, 0, [0, 0, 0], [false, false, false], false⟩, fun _ => noMb, [], fun _ => [], 0, 0, true, 0⟩
theorem beg_ok : GrOk begG 0 := by
  refine ⟨⟨by decide, rfl, by decide⟩, fun i => ⟨⟨⟨by show (0 : Int) ≤ 0; decide, by show (0 : Int) ≤ _; decide⟩, ⟨by show (0 : Int) ≤ 0; decide, by show (0 : Int) ≤ _; decide⟩, ⟨by show (0 : Int) ≤ 0; decide, by show (0 : Int) ≤ 0; decide⟩, ⟨by show (0 : Int) ≤ 0; decide, by show (0 : Int) ≤ 0; decide, by show (0 : Int) ≤ _; decide⟩, fun _ => rfl, List.Pairwise.nil, fun x hx => (by cases hx), List.nodup_nil, fun x hx => (by cases hx)⟩, rfl, fun x hx => (by cases hx), fun x hx => (by cases hx), fun x hx => (by cases hx)⟩, fun m hm => (by cases hm), by decide, by decide, rfl, rfl, fun i => Nat.zero_le _, fun i => by show (0 : Int) ≤ 0 + 12; decide⟩

/-- After t steps, from the start. -/
structure PlayOk (g : Gr) (t : Nat) : Prop where
  ok : GrOk g t
  now : g.now ≤ 5 * t
  fl : g.flight.length ≤ 12 * t
theorem beg_play : PlayOk begG 0 := ⟨beg_ok, by decide, by decide⟩
theorem PlayOk.step {g : Gr} {t : Nat} (h : PlayOk g t) (ht : t ≤ 900) {k n w : Int} (i : Fin 3) (hk : U8 k) (hn : U8 n) (hw : U8 w) : PlayOk (Sx.stepG g k i n w) (t + 1) := by
  have h1 := h.now; have h2 := h.fl; have h3 := h.ok.now
  refine ⟨h.ok.step ht i hk hn hw (by omega), ?_, ?_⟩
  · have := step_now (g := g) (k := k) (n := n) (w := w) (i := i) hw (by omega) (by omega); omega
  · have := step_fl g k n w i; omega
end Sx
end
section
/- Layer 21: BarrierAcknowledges. -/
open Go Go.Proofs Sx
namespace Sx
/-- The events of a play. -/
def EvRows (l : D) : Prop := (l.rows = [] ∨ l.sz = 3) ∧ ∀ r, r ∈ l.rows → ∃ a b c, r = [D.int .u8 a, D.int .u8 b, D.int .u8 c] ∧ U8 a ∧ U8 b ∧ U8 c
theorem EvRows.at {l : D} (h : EvRows l) {j : Nat} (hj : j < l.len) : (0 ≤ (j : Int) ∧ (j : Int) < (l.len : Int) ∧ l.sz = 3) ∧ l.HasCells (Int.toNat (j : Int)) 0 [.int .u8, .int .u8, .int .u8] ∧
    U8 (l.getInt (Int.toNat (j : Int)) 0) ∧ U8 (l.getInt (Int.toNat (j : Int)) 1) ∧ U8 (l.getInt (Int.toNat (j : Int)) 2) := by
  have hj' : j < l.rows.length := hj
  obtain ⟨a, b, c, hr, ha, hb, hc⟩ := h.2 _ (List.getElem_mem hj')
  have hg : l.rows[j]? = some [D.int .u8 a, D.int .u8 b, D.int .u8 c] := by rw [List.getElem?_eq_getElem hj', hr]
  have hs : l.sz = 3 := h.1.resolve_left (fun e => by rw [e] at hj'; cases hj')
  simp only [Int.toNat_natCast]
  refine ⟨⟨by omega, by omega, hs⟩, ⟨⟨a, ?_⟩, ⟨b, ?_⟩, ⟨c, ?_⟩, trivial⟩, ?_, ?_, ?_⟩
  · simp [D.cellAt, hg]
  · simp [D.cellAt, hg]
  · simp [D.cellAt, hg]
  · simp only [D.getInt, D.cellAt, hg]; exact ha
  · simp only [D.getInt, D.cellAt, hg]; exact hb
  · simp only [D.getInt, D.cellAt, hg]; exact hc
def spEv (l : D) : SpecR := .scalar [EvRows l] (.lb true)
end Sx
namespace Go.Proofs.Ytoechplbhbalaaa
set_option maxRecDepth 100000
set_option maxHeartbeats 0

theorem p9N3_run {w : World} {H : HV} {cn cr cp cdl : Int} {cps css : D} {cv : Bool} {p1 p2 p3 p4 : Int} {pf : Bool} {p6 : Int} {pw ph : D} {q1 q2 q3 q4 : Int} {qf : Bool} {q6 : Int} {qw qh : D} {r1 r2 r3 r4 : Int} {rf : Bool} {r6 : Int} {rw rh : D} {fl wa wb wc : D} {now clk : Int} {rt : Bool} {st : Int} (hrt : rt = true) : Runs Try.prog ⟨w, H⟩ (p9N [.int .i64 cn, .int .i64 cr, .int .i64 cp, .int .i64 cdl, .dat cps, .dat css, .bool cv, .int .i64 p1, .int .i64 p2, .int .i64 p3, .int .i64 p4, .bool pf, .int .i64 p6, .dat pw, .dat ph, .int .i64 q1, .int .i64 q2, .int .i64 q3, .int .i64 q4, .bool qf, .int .i64 q6, .dat qw, .dat qh, .int .i64 r1, .int .i64 r2, .int .i64 r3, .int .i64 r4, .bool rf, .int .i64 r6, .dat rw, .dat rh, .dat fl, .dat wa, .dat wb, .dat wc, .int .i64 now, .int .i64 clk, .bool rt, .int .i64 st] 3) (RetS w H (.lb true)) := by
  refine unroll_sound rfl ?_
  apply exec_sound ctPOk 900
  rw [p9N3_go]
  exact ⟨fun h => (by cases h), fun _ => ret_sure hrt⟩

theorem p9W2_run {w : World} {H : HV} {cn cr cp cdl : Int} {cps css : D} {cv : Bool} {p1 p2 p3 p4 : Int} {pf : Bool} {p6 : Int} {pw ph : D} {q1 q2 q3 q4 : Int} {qf : Bool} {q6 : Int} {qw qh : D} {r1 r2 r3 r4 : Int} {rf : Bool} {r6 : Int} {rw rh : D} {fl wa wb wc : D} {now clk : Int} {rt : Bool} {st : Int} (hwa : wa.Is Wr) (dwa : Done (wa.to Wr)) (lwa : wa.len ≤ 1000000) (hwb : wb.Is Wr) (dwb : Done (wb.to Wr)) (lwb : wb.len ≤ 1000000) (hwc : wc.Is Wr) (dwc : Done (wc.to Wr)) (lwc : wc.len ≤ 1000000) (hrt : rt = true) : ∀ i : Nat, i ≤ (wc.to Wr).length → Runs Try.prog ⟨w, H⟩ (p9W [.int .i64 cn, .int .i64 cr, .int .i64 cp, .int .i64 cdl, .dat cps, .dat css, .bool cv, .int .i64 p1, .int .i64 p2, .int .i64 p3, .int .i64 p4, .bool pf, .int .i64 p6, .dat pw, .dat ph, .int .i64 q1, .int .i64 q2, .int .i64 q3, .int .i64 q4, .bool qf, .int .i64 q6, .dat qw, .dat qh, .int .i64 r1, .int .i64 r2, .int .i64 r3, .int .i64 r4, .bool rf, .int .i64 r6, .dat rw, .dat rh, .dat fl, .dat wa, .dat wb, .dat wc, .int .i64 now, .int .i64 clk, .bool rt, .int .i64 st] 2 i) (RetS w H (.lb true)) := by
  refine runs_loop (fun i : Nat => p9W [.int .i64 cn, .int .i64 cr, .int .i64 cp, .int .i64 cdl, .dat cps, .dat css, .bool cv, .int .i64 p1, .int .i64 p2, .int .i64 p3, .int .i64 p4, .bool pf, .int .i64 p6, .dat pw, .dat ph, .int .i64 q1, .int .i64 q2, .int .i64 q3, .int .i64 q4, .bool qf, .int .i64 q6, .dat qw, .dat qh, .int .i64 r1, .int .i64 r2, .int .i64 r3, .int .i64 r4, .bool rf, .int .i64 r6, .dat rw, .dat rh, .dat fl, .dat wa, .dat wb, .dat wc, .int .i64 now, .int .i64 clk, .bool rt, .int .i64 st] 2 i) (fun i => i ≤ (wc.to Wr).length) (fun i => (wc.to Wr).length - i) (fun _ => rfl) fun i hi ih => ?_
  have lW := D.Is.length (α := Wr) wc
  apply exec_sound ctPOk 900
  rw [p9W2_go]
  have nn : (0 : Int) ≤ 2 ∧ (2 : Int) < ((3 : Nat) : Int) := by omega
  refine ⟨nn, fun hc => ?_, fun hc => ?_⟩
  · have hc : i < (wc.to Wr).length := by have := of_decide_eq_true hc; omega
    obtain ⟨k1, k2, k3, k4, k5⟩ := wr_cell hwc hc
    have hd := dwc i hc
    refine ⟨nn, ⟨by omega, by omega, hwc.size hc⟩, k1, fun hb => ?_, fun _ => ?_⟩
    · exfalso
      simp only [Int.toNat_natCast, k3, k4, Bool.not_eq_true', decide_eq_false_iff_not] at hb
      exact hb hd
    · have := ih (i + 1) hc (by omega)
      rw [← wrap_succ hc (by omega)] at this
      exact this
  · exact p9N3_run hrt

theorem p9N2_run {w : World} {H : HV} {cn cr cp cdl : Int} {cps css : D} {cv : Bool} {p1 p2 p3 p4 : Int} {pf : Bool} {p6 : Int} {pw ph : D} {q1 q2 q3 q4 : Int} {qf : Bool} {q6 : Int} {qw qh : D} {r1 r2 r3 r4 : Int} {rf : Bool} {r6 : Int} {rw rh : D} {fl wa wb wc : D} {now clk : Int} {rt : Bool} {st : Int} (hwa : wa.Is Wr) (dwa : Done (wa.to Wr)) (lwa : wa.len ≤ 1000000) (hwb : wb.Is Wr) (dwb : Done (wb.to Wr)) (lwb : wb.len ≤ 1000000) (hwc : wc.Is Wr) (dwc : Done (wc.to Wr)) (lwc : wc.len ≤ 1000000) (hrt : rt = true) : Runs Try.prog ⟨w, H⟩ (p9N [.int .i64 cn, .int .i64 cr, .int .i64 cp, .int .i64 cdl, .dat cps, .dat css, .bool cv, .int .i64 p1, .int .i64 p2, .int .i64 p3, .int .i64 p4, .bool pf, .int .i64 p6, .dat pw, .dat ph, .int .i64 q1, .int .i64 q2, .int .i64 q3, .int .i64 q4, .bool qf, .int .i64 q6, .dat qw, .dat qh, .int .i64 r1, .int .i64 r2, .int .i64 r3, .int .i64 r4, .bool rf, .int .i64 r6, .dat rw, .dat rh, .dat fl, .dat wa, .dat wb, .dat wc, .int .i64 now, .int .i64 clk, .bool rt, .int .i64 st] 2) (RetS w H (.lb true)) := by
  refine unroll_sound rfl ?_
  apply exec_sound ctPOk 900
  rw [p9N2_go]
  exact ⟨fun _ => p9W2_run hwa dwa lwa hwb dwb lwb hwc dwc lwc hrt 0 (Nat.zero_le _), fun h => (by cases h)⟩

theorem p9W1_run {w : World} {H : HV} {cn cr cp cdl : Int} {cps css : D} {cv : Bool} {p1 p2 p3 p4 : Int} {pf : Bool} {p6 : Int} {pw ph : D} {q1 q2 q3 q4 : Int} {qf : Bool} {q6 : Int} {qw qh : D} {r1 r2 r3 r4 : Int} {rf : Bool} {r6 : Int} {rw rh : D} {fl wa wb wc : D} {now clk : Int} {rt : Bool} {st : Int} (hwa : wa.Is Wr) (dwa : Done (wa.to Wr)) (lwa : wa.len ≤ 1000000) (hwb : wb.Is Wr) (dwb : Done (wb.to Wr)) (lwb : wb.len ≤ 1000000) (hwc : wc.Is Wr) (dwc : Done (wc.to Wr)) (lwc : wc.len ≤ 1000000) (hrt : rt = true) : ∀ i : Nat, i ≤ (wb.to Wr).length → Runs Try.prog ⟨w, H⟩ (p9W [.int .i64 cn, .int .i64 cr, .int .i64 cp, .int .i64 cdl, .dat cps, .dat css, .bool cv, .int .i64 p1, .int .i64 p2, .int .i64 p3, .int .i64 p4, .bool pf, .int .i64 p6, .dat pw, .dat ph, .int .i64 q1, .int .i64 q2, .int .i64 q3, .int .i64 q4, .bool qf, .int .i64 q6, .dat qw, .dat qh, .int .i64 r1, .int .i64 r2, .int .i64 r3, .int .i64 r4, .bool rf, .int .i64 r6, .dat rw, .dat rh, .dat fl, .dat wa, .dat wb, .dat wc, .int .i64 now, .int .i64 clk, .bool rt, .int .i64 st] 1 i) (RetS w H (.lb true)) := by
  refine runs_loop (fun i : Nat => p9W [.int .i64 cn, .int .i64 cr, .int .i64 cp, .int .i64 cdl, .dat cps, .dat css, .bool cv, .int .i64 p1, .int .i64 p2, .int .i64 p3, .int .i64 p4, .bool pf, .int .i64 p6, .dat pw, .dat ph, .int .i64 q1, .int .i64 q2, .int .i64 q3, .int .i64 q4, .bool qf, .int .i64 q6, .dat qw, .dat qh, .int .i64 r1, .int .i64 r2, .int .i64 r3, .int .i64 r4, .bool rf, .int .i64 r6, .dat rw, .dat rh, .dat fl, .dat wa, .dat wb, .dat wc, .int .i64 now, .int .i64 clk, .bool rt, .int .i64 st] 1 i) (fun i => i ≤ (wb.to Wr).length) (fun i => (wb.to Wr).length - i) (fun _ => rfl) fun i hi ih => ?_
  have lW := D.Is.length (α := Wr) wb
  apply exec_sound ctPOk 900
  rw [p9W1_go]
  have nn : (0 : Int) ≤ 1 ∧ (1 : Int) < ((3 : Nat) : Int) := by omega
  refine ⟨nn, fun hc => ?_, fun hc => ?_⟩
  · have hc : i < (wb.to Wr).length := by have := of_decide_eq_true hc; omega
    obtain ⟨k1, k2, k3, k4, k5⟩ := wr_cell hwb hc
    have hd := dwb i hc
    refine ⟨nn, ⟨by omega, by omega, hwb.size hc⟩, k1, fun hb => ?_, fun _ => ?_⟩
    · exfalso
      simp only [Int.toNat_natCast, k3, k4, Bool.not_eq_true', decide_eq_false_iff_not] at hb
      exact hb hd
    · have := ih (i + 1) hc (by omega)
      rw [← wrap_succ hc (by omega)] at this
      exact this
  · exact p9N2_run hwa dwa lwa hwb dwb lwb hwc dwc lwc hrt

theorem p9N1_run {w : World} {H : HV} {cn cr cp cdl : Int} {cps css : D} {cv : Bool} {p1 p2 p3 p4 : Int} {pf : Bool} {p6 : Int} {pw ph : D} {q1 q2 q3 q4 : Int} {qf : Bool} {q6 : Int} {qw qh : D} {r1 r2 r3 r4 : Int} {rf : Bool} {r6 : Int} {rw rh : D} {fl wa wb wc : D} {now clk : Int} {rt : Bool} {st : Int} (hwa : wa.Is Wr) (dwa : Done (wa.to Wr)) (lwa : wa.len ≤ 1000000) (hwb : wb.Is Wr) (dwb : Done (wb.to Wr)) (lwb : wb.len ≤ 1000000) (hwc : wc.Is Wr) (dwc : Done (wc.to Wr)) (lwc : wc.len ≤ 1000000) (hrt : rt = true) : Runs Try.prog ⟨w, H⟩ (p9N [.int .i64 cn, .int .i64 cr, .int .i64 cp, .int .i64 cdl, .dat cps, .dat css, .bool cv, .int .i64 p1, .int .i64 p2, .int .i64 p3, .int .i64 p4, .bool pf, .int .i64 p6, .dat pw, .dat ph, .int .i64 q1, .int .i64 q2, .int .i64 q3, .int .i64 q4, .bool qf, .int .i64 q6, .dat qw, .dat qh, .int .i64 r1, .int .i64 r2, .int .i64 r3, .int .i64 r4, .bool rf, .int .i64 r6, .dat rw, .dat rh, .dat fl, .dat wa, .dat wb, .dat wc, .int .i64 now, .int .i64 clk, .bool rt, .int .i64 st] 1) (RetS w H (.lb true)) := by
  refine unroll_sound rfl ?_
  apply exec_sound ctPOk 900
  rw [p9N1_go]
  exact ⟨fun _ => p9W1_run hwa dwa lwa hwb dwb lwb hwc dwc lwc hrt 0 (Nat.zero_le _), fun h => (by cases h)⟩

theorem p9W0_run {w : World} {H : HV} {cn cr cp cdl : Int} {cps css : D} {cv : Bool} {p1 p2 p3 p4 : Int} {pf : Bool} {p6 : Int} {pw ph : D} {q1 q2 q3 q4 : Int} {qf : Bool} {q6 : Int} {qw qh : D} {r1 r2 r3 r4 : Int} {rf : Bool} {r6 : Int} {rw rh : D} {fl wa wb wc : D} {now clk : Int} {rt : Bool} {st : Int} (hwa : wa.Is Wr) (dwa : Done (wa.to Wr)) (lwa : wa.len ≤ 1000000) (hwb : wb.Is Wr) (dwb : Done (wb.to Wr)) (lwb : wb.len ≤ 1000000) (hwc : wc.Is Wr) (dwc : Done (wc.to Wr)) (lwc : wc.len ≤ 1000000) (hrt : rt = true) : ∀ i : Nat, i ≤ (wa.to Wr).length → Runs Try.prog ⟨w, H⟩ (p9W [.int .i64 cn, .int .i64 cr, .int .i64 cp, .int .i64 cdl, .dat cps, .dat css, .bool cv, .int .i64 p1, .int .i64 p2, .int .i64 p3, .int .i64 p4, .bool pf, .int .i64 p6, .dat pw, .dat ph, .int .i64 q1, .int .i64 q2, .int .i64 q3, .int .i64 q4, .bool qf, .int .i64 q6, .dat qw, .dat qh, .int .i64 r1, .int .i64 r2, .int .i64 r3, .int .i64 r4, .bool rf, .int .i64 r6, .dat rw, .dat rh, .dat fl, .dat wa, .dat wb, .dat wc, .int .i64 now, .int .i64 clk, .bool rt, .int .i64 st] 0 i) (RetS w H (.lb true)) := by
  refine runs_loop (fun i : Nat => p9W [.int .i64 cn, .int .i64 cr, .int .i64 cp, .int .i64 cdl, .dat cps, .dat css, .bool cv, .int .i64 p1, .int .i64 p2, .int .i64 p3, .int .i64 p4, .bool pf, .int .i64 p6, .dat pw, .dat ph, .int .i64 q1, .int .i64 q2, .int .i64 q3, .int .i64 q4, .bool qf, .int .i64 q6, .dat qw, .dat qh, .int .i64 r1, .int .i64 r2, .int .i64 r3, .int .i64 r4, .bool rf, .int .i64 r6, .dat rw, .dat rh, .dat fl, .dat wa, .dat wb, .dat wc, .int .i64 now, .int .i64 clk, .bool rt, .int .i64 st] 0 i) (fun i => i ≤ (wa.to Wr).length) (fun i => (wa.to Wr).length - i) (fun _ => rfl) fun i hi ih => ?_
  have lW := D.Is.length (α := Wr) wa
  apply exec_sound ctPOk 900
  rw [p9W0_go]
  have nn : (0 : Int) ≤ 0 ∧ (0 : Int) < ((3 : Nat) : Int) := by omega
  refine ⟨nn, fun hc => ?_, fun hc => ?_⟩
  · have hc : i < (wa.to Wr).length := by have := of_decide_eq_true hc; omega
    obtain ⟨k1, k2, k3, k4, k5⟩ := wr_cell hwa hc
    have hd := dwa i hc
    refine ⟨nn, ⟨by omega, by omega, hwa.size hc⟩, k1, fun hb => ?_, fun _ => ?_⟩
    · exfalso
      simp only [Int.toNat_natCast, k3, k4, Bool.not_eq_true', decide_eq_false_iff_not] at hb
      exact hb hd
    · have := ih (i + 1) hc (by omega)
      rw [← wrap_succ hc (by omega)] at this
      exact this
  · exact p9N1_run hwa dwa lwa hwb dwb lwb hwc dwc lwc hrt

theorem p9N0_run {w : World} {H : HV} {cn cr cp cdl : Int} {cps css : D} {cv : Bool} {p1 p2 p3 p4 : Int} {pf : Bool} {p6 : Int} {pw ph : D} {q1 q2 q3 q4 : Int} {qf : Bool} {q6 : Int} {qw qh : D} {r1 r2 r3 r4 : Int} {rf : Bool} {r6 : Int} {rw rh : D} {fl wa wb wc : D} {now clk : Int} {rt : Bool} {st : Int} (hwa : wa.Is Wr) (dwa : Done (wa.to Wr)) (lwa : wa.len ≤ 1000000) (hwb : wb.Is Wr) (dwb : Done (wb.to Wr)) (lwb : wb.len ≤ 1000000) (hwc : wc.Is Wr) (dwc : Done (wc.to Wr)) (lwc : wc.len ≤ 1000000) (hrt : rt = true) : Runs Try.prog ⟨w, H⟩ (p9N [.int .i64 cn, .int .i64 cr, .int .i64 cp, .int .i64 cdl, .dat cps, .dat css, .bool cv, .int .i64 p1, .int .i64 p2, .int .i64 p3, .int .i64 p4, .bool pf, .int .i64 p6, .dat pw, .dat ph, .int .i64 q1, .int .i64 q2, .int .i64 q3, .int .i64 q4, .bool qf, .int .i64 q6, .dat qw, .dat qh, .int .i64 r1, .int .i64 r2, .int .i64 r3, .int .i64 r4, .bool rf, .int .i64 r6, .dat rw, .dat rh, .dat fl, .dat wa, .dat wb, .dat wc, .int .i64 now, .int .i64 clk, .bool rt, .int .i64 st] 0) (RetS w H (.lb true)) := by
  refine unroll_sound rfl ?_
  apply exec_sound ctPOk 900
  rw [p9N0_go]
  exact ⟨fun _ => p9W0_run hwa dwa lwa hwb dwb lwb hwc dwc lwc hrt 0 (Nat.zero_le _), fun h => (by cases h)⟩

theorem p9E_run {w : World} {H : HV} {cn cr cp cdl : Int} {cps css : D} {cv : Bool} {p1 p2 p3 p4 : Int} {pf : Bool} {p6 : Int} {pw ph : D} {q1 q2 q3 q4 : Int} {qf : Bool} {q6 : Int} {qw qh : D} {r1 r2 r3 r4 : Int} {rf : Bool} {r6 : Int} {rw rh : D} {fl wa wb wc : D} {now clk : Int} {rt : Bool} {st : Int} {t : Nat} (ht : t ≤ 60) (hR : GrRight (CV.int cn :: CV.int cr :: CV.int cp :: CV.int cdl :: CV.dat cps :: CV.dat css :: CV.bool cv :: CV.int p1 :: CV.int p2 :: CV.int p3 :: CV.int p4 :: CV.bool pf :: CV.int p6 :: CV.dat pw :: CV.dat ph :: CV.int q1 :: CV.int q2 :: CV.int q3 :: CV.int q4 :: CV.bool qf :: CV.int q6 :: CV.dat qw :: CV.dat qh :: CV.int r1 :: CV.int r2 :: CV.int r3 :: CV.int r4 :: CV.bool rf :: CV.int r6 :: CV.dat rw :: CV.dat rh :: CV.dat fl :: CV.dat wa :: CV.dat wb :: CV.dat wc :: CV.int now :: CV.int clk :: CV.bool rt :: CV.int st :: [])) (hp : PlayOk (grOf (CV.int cn :: CV.int cr :: CV.int cp :: CV.int cdl :: CV.dat cps :: CV.dat css :: CV.bool cv :: CV.int p1 :: CV.int p2 :: CV.int p3 :: CV.int p4 :: CV.bool pf :: CV.int p6 :: CV.dat pw :: CV.dat ph :: CV.int q1 :: CV.int q2 :: CV.int q3 :: CV.int q4 :: CV.bool qf :: CV.int q6 :: CV.dat qw :: CV.dat qh :: CV.int r1 :: CV.int r2 :: CV.int r3 :: CV.int r4 :: CV.bool rf :: CV.int r6 :: CV.dat rw :: CV.dat rh :: CV.dat fl :: CV.dat wa :: CV.dat wb :: CV.dat wc :: CV.int now :: CV.int clk :: CV.bool rt :: CV.int st :: [])) t) : Runs Try.prog ⟨w, H⟩ (p9E [.int .i64 cn, .int .i64 cr, .int .i64 cp, .int .i64 cdl, .dat cps, .dat css, .bool cv, .int .i64 p1, .int .i64 p2, .int .i64 p3, .int .i64 p4, .bool pf, .int .i64 p6, .dat pw, .dat ph, .int .i64 q1, .int .i64 q2, .int .i64 q3, .int .i64 q4, .bool qf, .int .i64 q6, .dat qw, .dat qh, .int .i64 r1, .int .i64 r2, .int .i64 r3, .int .i64 r4, .bool rf, .int .i64 r6, .dat rw, .dat rh, .dat fl, .dat wa, .dat wb, .dat wc, .int .i64 now, .int .i64 clk, .bool rt, .int .i64 st]) (RetS w H (.lb true)) := by
  have hR' : GrRight (CV.int cn :: CV.int cr :: CV.int cp :: CV.int cdl :: CV.dat cps :: CV.dat css :: CV.bool cv :: CV.int p1 :: CV.int p2 :: CV.int p3 :: CV.int p4 :: CV.bool pf :: CV.int p6 :: CV.dat pw :: CV.dat ph :: CV.int q1 :: CV.int q2 :: CV.int q3 :: CV.int q4 :: CV.bool qf :: CV.int q6 :: CV.dat qw :: CV.dat qh :: CV.int r1 :: CV.int r2 :: CV.int r3 :: CV.int r4 :: CV.bool rf :: CV.int r6 :: CV.dat rw :: CV.dat rh :: CV.dat fl :: CV.dat wa :: CV.dat wb :: CV.dat wc :: CV.int (IntKind.i64.wrap (now + 100)) :: CV.int clk :: CV.bool rt :: CV.int st :: []) := by
    rw [grRight_eq] at hR ⊢
    exact hR
  have e : grOf (CV.int cn :: CV.int cr :: CV.int cp :: CV.int cdl :: CV.dat cps :: CV.dat css :: CV.bool cv :: CV.int p1 :: CV.int p2 :: CV.int p3 :: CV.int p4 :: CV.bool pf :: CV.int p6 :: CV.dat pw :: CV.dat ph :: CV.int q1 :: CV.int q2 :: CV.int q3 :: CV.int q4 :: CV.bool qf :: CV.int q6 :: CV.dat qw :: CV.dat qh :: CV.int r1 :: CV.int r2 :: CV.int r3 :: CV.int r4 :: CV.bool rf :: CV.int r6 :: CV.dat rw :: CV.dat rh :: CV.dat fl :: CV.dat wa :: CV.dat wb :: CV.dat wc :: CV.int (IntKind.i64.wrap (now + 100)) :: CV.int clk :: CV.bool rt :: CV.int st :: []) = { grOf (CV.int cn :: CV.int cr :: CV.int cp :: CV.int cdl :: CV.dat cps :: CV.dat css :: CV.bool cv :: CV.int p1 :: CV.int p2 :: CV.int p3 :: CV.int p4 :: CV.bool pf :: CV.int p6 :: CV.dat pw :: CV.dat ph :: CV.int q1 :: CV.int q2 :: CV.int q3 :: CV.int q4 :: CV.bool qf :: CV.int q6 :: CV.dat qw :: CV.dat qh :: CV.int r1 :: CV.int r2 :: CV.int r3 :: CV.int r4 :: CV.bool rf :: CV.int r6 :: CV.dat rw :: CV.dat rh :: CV.dat fl :: CV.dat wa :: CV.dat wb :: CV.dat wc :: CV.int now :: CV.int clk :: CV.bool rt :: CV.int st :: []) with now := IntKind.i64.wrap ((grOf (CV.int cn :: CV.int cr :: CV.int cp :: CV.int cdl :: CV.dat cps :: CV.dat css :: CV.bool cv :: CV.int p1 :: CV.int p2 :: CV.int p3 :: CV.int p4 :: CV.bool pf :: CV.int p6 :: CV.dat pw :: CV.dat ph :: CV.int q1 :: CV.int q2 :: CV.int q3 :: CV.int q4 :: CV.bool qf :: CV.int q6 :: CV.dat qw :: CV.dat qh :: CV.int r1 :: CV.int r2 :: CV.int r3 :: CV.int r4 :: CV.bool rf :: CV.int r6 :: CV.dat rw :: CV.dat rh :: CV.dat fl :: CV.dat wa :: CV.dat wb :: CV.dat wc :: CV.int now :: CV.int clk :: CV.bool rt :: CV.int st :: [])).now + 100) } := by rw [grOf_eq, grOf_eq]
  obtain ⟨h1, h2⟩ := last_tick hp.ok (by omega) hp.now hp.fl
  rw [← e] at h1 h2
  have hf := hp.fl
  rw [grOf_eq] at hf
  simp only at hf
  have hf2 : (grOf (CV.int cn :: CV.int cr :: CV.int cp :: CV.int cdl :: CV.dat cps :: CV.dat css :: CV.bool cv :: CV.int p1 :: CV.int p2 :: CV.int p3 :: CV.int p4 :: CV.bool pf :: CV.int p6 :: CV.dat pw :: CV.dat ph :: CV.int q1 :: CV.int q2 :: CV.int q3 :: CV.int q4 :: CV.bool qf :: CV.int q6 :: CV.dat qw :: CV.dat qh :: CV.int r1 :: CV.int r2 :: CV.int r3 :: CV.int r4 :: CV.bool rf :: CV.int r6 :: CV.dat rw :: CV.dat rh :: CV.dat fl :: CV.dat wa :: CV.dat wb :: CV.dat wc :: CV.int (IntKind.i64.wrap (now + 100)) :: CV.int clk :: CV.bool rt :: CV.int st :: [])).flight.length ≤ 999000 := by rw [grOf_eq]; simp only; omega
  apply exec_sound ctPOk 900
  rw [p9E_go]
  refine ⟨⟨hR', ⟨⟨⟨by decide, by decide⟩, ⟨by decide, by decide⟩⟩, hf2⟩, h1.right⟩, fun hs => ?_⟩
  generalize hg : tickG (grOf (CV.int cn :: CV.int cr :: CV.int cp :: CV.int cdl :: CV.dat cps :: CV.dat css :: CV.bool cv :: CV.int p1 :: CV.int p2 :: CV.int p3 :: CV.int p4 :: CV.bool pf :: CV.int p6 :: CV.dat pw :: CV.dat ph :: CV.int q1 :: CV.int q2 :: CV.int q3 :: CV.int q4 :: CV.bool qf :: CV.int q6 :: CV.dat qw :: CV.dat qh :: CV.int r1 :: CV.int r2 :: CV.int r3 :: CV.int r4 :: CV.bool rf :: CV.int r6 :: CV.dat rw :: CV.dat rh :: CV.dat fl :: CV.dat wa :: CV.dat wb :: CV.dat wc :: CV.int (IntKind.i64.wrap (now + 100)) :: CV.int clk :: CV.bool rt :: CV.int st :: [])) 1 0 = g at h1 h2
  obtain ⟨b1, b2⟩ := h1.bounds (by omega)
  have := p9N0_run (w := w) (H := H) (cn := g.c.nodes) (cr := g.c.round) (cp := g.c.phase) (cdl := g.c.deadline) (cps := ((hs 0 0).like g.c.positions)) (css := ((hs 0 1).like g.c.seen)) (cv := g.c.valid) (p1 := (g.node 0).round) (p2 := (g.node 0).position) (p3 := (g.node 0).thawed) (p4 := (g.node 0).issued) (pf := (g.node 0).frozen) (p6 := (g.node 0).upto) (pw := ((hs 0 2).like (g.node 0).waiting)) (ph := ((hs 0 3).like (g.node 0).held)) (q1 := (g.node 1).round) (q2 := (g.node 1).position) (q3 := (g.node 1).thawed) (q4 := (g.node 1).issued) (qf := (g.node 1).frozen) (q6 := (g.node 1).upto) (qw := ((hs 0 4).like (g.node 1).waiting)) (qh := ((hs 0 5).like (g.node 1).held)) (r1 := (g.node 2).round) (r2 := (g.node 2).position) (r3 := (g.node 2).thawed) (r4 := (g.node 2).issued) (rf := (g.node 2).frozen) (r6 := (g.node 2).upto) (rw := ((hs 0 6).like (g.node 2).waiting)) (rh := ((hs 0 7).like (g.node 2).held)) (fl := ((hs 0 8).like g.flight)) (wa := ((hs 0 9).like (g.wr 0))) (wb := ((hs 0 10).like (g.wr 1))) (wc := ((hs 0 11).like (g.wr 2))) (now := g.now) (clk := g.clock) (rt := g.right) (st := g.started) (D.like_is _ _) (by rw [D.like_to]; exact h2 0) (by rw [like_len]; exact (b1 0).2.2) (D.like_is _ _) (by rw [D.like_to]; exact h2 1) (by rw [like_len]; exact (b1 1).2.2)
    (D.like_is _ _) (by rw [D.like_to]; exact h2 2) (by rw [like_len]; exact (b1 2).2.2) h1.right
  subst hg
  exact this

theorem p9_step {w : World} {H : HV} {cn cr cp cdl : Int} {cps css : D} {cv : Bool} {p1 p2 p3 p4 : Int} {pf : Bool} {p6 : Int} {pw ph : D} {q1 q2 q3 q4 : Int} {qf : Bool} {q6 : Int} {qw qh : D} {r1 r2 r3 r4 : Int} {rf : Bool} {r6 : Int} {rw rh : D} {fl wa wb wc : D} {now clk : Int} {rt : Bool} {st : Int} {l : D} (hl : EvRows l) (hlen : l.len ≤ 60) {i : Nat} (hi : i ≤ l.len) (hR : GrRight (CV.int cn :: CV.int cr :: CV.int cp :: CV.int cdl :: CV.dat cps :: CV.dat css :: CV.bool cv :: CV.int p1 :: CV.int p2 :: CV.int p3 :: CV.int p4 :: CV.bool pf :: CV.int p6 :: CV.dat pw :: CV.dat ph :: CV.int q1 :: CV.int q2 :: CV.int q3 :: CV.int q4 :: CV.bool qf :: CV.int q6 :: CV.dat qw :: CV.dat qh :: CV.int r1 :: CV.int r2 :: CV.int r3 :: CV.int r4 :: CV.bool rf :: CV.int r6 :: CV.dat rw :: CV.dat rh :: CV.dat fl :: CV.dat wa :: CV.dat wb :: CV.dat wc :: CV.int now :: CV.int clk :: CV.bool rt :: CV.int st :: [])) (hp : PlayOk (grOf (CV.int cn :: CV.int cr :: CV.int cp :: CV.int cdl :: CV.dat cps :: CV.dat css :: CV.bool cv :: CV.int p1 :: CV.int p2 :: CV.int p3 :: CV.int p4 :: CV.bool pf :: CV.int p6 :: CV.dat pw :: CV.dat ph :: CV.int q1 :: CV.int q2 :: CV.int q3 :: CV.int q4 :: CV.bool qf :: CV.int q6 :: CV.dat qw :: CV.dat qh :: CV.int r1 :: CV.int r2 :: CV.int r3 :: CV.int r4 :: CV.bool rf :: CV.int r6 :: CV.dat rw :: CV.dat rh :: CV.dat fl :: CV.dat wa :: CV.dat wb :: CV.dat wc :: CV.int now :: CV.int clk :: CV.bool rt :: CV.int st :: [])) i)
    (ih : ∀ cs : List CV, ShapeC grK cs → GrRight cs → PlayOk (grOf cs) (i + 1) → i + 1 ≤ l.len → Runs Try.prog ⟨w, H⟩ (p9L l (cs.map CV.sv) ((i + 1 : Nat) : Int)) (RetS w H (.lb true))) :
    Runs Try.prog ⟨w, H⟩ (unroll (p9L l [.int .i64 cn, .int .i64 cr, .int .i64 cp, .int .i64 cdl, .dat cps, .dat css, .bool cv, .int .i64 p1, .int .i64 p2, .int .i64 p3, .int .i64 p4, .bool pf, .int .i64 p6, .dat pw, .dat ph, .int .i64 q1, .int .i64 q2, .int .i64 q3, .int .i64 q4, .bool qf, .int .i64 q6, .dat qw, .dat qh, .int .i64 r1, .int .i64 r2, .int .i64 r3, .int .i64 r4, .bool rf, .int .i64 r6, .dat rw, .dat rh, .dat fl, .dat wa, .dat wb, .dat wc, .int .i64 now, .int .i64 clk, .bool rt, .int .i64 st] i)) (RetS w H (.lb true)) := by
  have hf := hp.fl
  rw [grOf_eq] at hf
  simp only at hf
  have hrt := hp.ok.right
  rw [grOf_eq] at hrt
  simp only at hrt
  apply goS_sound ctPOk (fun _ => false) [(9, 29)] 900
  rw [p9_go]
  refine ⟨fun hc => ⟨fun _ hs => ?_, fun h => absurd (hrt.symm.trans h) (by decide)⟩, fun _ => p9E_run (by omega) hR hp⟩
  have hc : i < l.len := by have := of_decide_eq_true hc; omega
  obtain ⟨a1, a2, a3, a4, a5⟩ := hl.at hc
  have hs2 := hp.step (by omega) (nodeOf (l.getInt (Int.toNat (i : Int)) 1)) a3 a4 a5
  refine ⟨a1, a2, ⟨hR, ⟨⟨a3, a4, a5⟩, by omega⟩, hs2.ok.right⟩, ?_⟩
  obtain ⟨b1, b2⟩ := hs2.ok.bounds (by omega)
  have := ih _ (cv_shape _ (hs 5)) (grRight_cv _ (hs 5) b1 (by omega)) (by rw [grOf_cv]; exact hs2) hc
  rw [← wrap_succ hc (by omega)] at this
  exact this

theorem beg_shape (hs : Nat → Nat → D) : ShapeC grK (CV.int 3 :: CV.int 0 :: CV.int 0 :: CV.int 0 :: CV.dat ((hs 0 0).like ([0, 0, 0] : List Int)) :: CV.dat ((hs 0 1).like [false, false, false]) :: CV.bool false :: CV.int 0 :: CV.int 0 :: CV.int 0 :: CV.int 0 :: CV.bool false :: CV.int 0 :: CV.dat (D.slc none 0 []) :: CV.dat (D.slc none 0 []) :: CV.int 0 :: CV.int 0 :: CV.int 0 :: CV.int 0 :: CV.bool false :: CV.int 0 :: CV.dat (D.slc none 0 []) :: CV.dat (D.slc none 0 []) :: CV.int 0 :: CV.int 0 :: CV.int 0 :: CV.int 0 :: CV.bool false :: CV.int 0 :: CV.dat (D.slc none 0 []) :: CV.dat (D.slc none 0 []) :: CV.dat (D.slc none 0 []) :: CV.dat (D.slc none 0 []) :: CV.dat (D.slc none 0 []) :: CV.dat (D.slc none 0 []) :: CV.int 0 :: CV.int 0 :: CV.bool true :: CV.int 0 :: []) := by
  simp only [grK, ShapeC]
  exact ⟨_, _, rfl, _, _, rfl, _, _, rfl, _, _, rfl, _, _, rfl, _, _, rfl, _, _, rfl, _, _, rfl, _, _, rfl, _, _, rfl, _, _, rfl, _, _, rfl, _, _, rfl, _, _, rfl, _, _, rfl, _, _, rfl, _, _, rfl, _, _, rfl, _, _, rfl, _, _, rfl, _, _, rfl, _, _, rfl, _, _, rfl, _, _, rfl, _, _, rfl, _, _, rfl, _, _, rfl, _, _, rfl, _, _, rfl, _, _, rfl, _, _, rfl, _, _, rfl, _, _, rfl, _, _, rfl, _, _, rfl, _, _, rfl, _, _, rfl, _, _, rfl, _, _, rfl, rfl⟩
theorem beg_eq (hs : Nat → Nat → D) : grOf (CV.int 3 :: CV.int 0 :: CV.int 0 :: CV.int 0 :: CV.dat ((hs 0 0).like ([0, 0, 0] : List Int)) :: CV.dat ((hs 0 1).like [false, false, false]) :: CV.bool false :: CV.int 0 :: CV.int 0 :: CV.int 0 :: CV.int 0 :: CV.bool false :: CV.int 0 :: CV.dat (D.slc none 0 []) :: CV.dat (D.slc none 0 []) :: CV.int 0 :: CV.int 0 :: CV.int 0 :: CV.int 0 :: CV.bool false :: CV.int 0 :: CV.dat (D.slc none 0 []) :: CV.dat (D.slc none 0 []) :: CV.int 0 :: CV.int 0 :: CV.int 0 :: CV.int 0 :: CV.bool false :: CV.int 0 :: CV.dat (D.slc none 0 []) :: CV.dat (D.slc none 0 []) :: CV.dat (D.slc none 0 []) :: CV.dat (D.slc none 0 []) :: CV.dat (D.slc none 0 []) :: CV.dat (D.slc none 0 []) :: CV.int 0 :: CV.int 0 :: CV.bool true :: CV.int 0 :: []) = begG := by
  rw [grOf_eq]
  simp only [D.like_to]
  have e : tri (⟨0, 0, 0, 0, false, 0, (D.slc none 0 []).to Int, (D.slc none 0 []).to Int⟩ : Mb) ⟨0, 0, 0, 0, false, 0, (D.slc none 0 []).to Int, (D.slc none 0 []).to Int⟩ ⟨0, 0, 0, 0, false, 0, (D.slc none 0 []).to Int, (D.slc none 0 []).to Int⟩ = fun _ => noMb := by
    funext i; match i with | 0 => rfl | 1 => rfl | 2 => rfl
  have e2 : tri ((D.slc none 0 []).to Wr) ((D.slc none 0 []).to Wr) ((D.slc none 0 []).to Wr) = fun _ => [] := by
    funext i; match i with | 0 => rfl | 1 => rfl | 2 => rfl
  rw [e, e2]
  rfl
theorem beg_right (hs : Nat → Nat → D) : GrRight (CV.int 3 :: CV.int 0 :: CV.int 0 :: CV.int 0 :: CV.dat ((hs 0 0).like ([0, 0, 0] : List Int)) :: CV.dat ((hs 0 1).like [false, false, false]) :: CV.bool false :: CV.int 0 :: CV.int 0 :: CV.int 0 :: CV.int 0 :: CV.bool false :: CV.int 0 :: CV.dat (D.slc none 0 []) :: CV.dat (D.slc none 0 []) :: CV.int 0 :: CV.int 0 :: CV.int 0 :: CV.int 0 :: CV.bool false :: CV.int 0 :: CV.dat (D.slc none 0 []) :: CV.dat (D.slc none 0 []) :: CV.int 0 :: CV.int 0 :: CV.int 0 :: CV.int 0 :: CV.bool false :: CV.int 0 :: CV.dat (D.slc none 0 []) :: CV.dat (D.slc none 0 []) :: CV.dat (D.slc none 0 []) :: CV.dat (D.slc none 0 []) :: CV.dat (D.slc none 0 []) :: CV.dat (D.slc none 0 []) :: CV.int 0 :: CV.int 0 :: CV.bool true :: CV.int 0 :: []) := by
  rw [grRight_eq]
  have h : MbD.Right ⟨0, 0, 0, 0, false, 0, D.slc none 0 [], D.slc none 0 []⟩ := ⟨is_nil _ _, is_nil _ _, Nat.zero_le _, Nat.zero_le _⟩
  exact ⟨⟨D.like_is _ _, D.like_is _ _⟩, h, h, h, ⟨is_nil _ _, Nat.zero_le _⟩, ⟨is_nil _ _, Nat.zero_le _⟩, ⟨is_nil _ _, Nat.zero_le _⟩, ⟨is_nil _ _, Nat.zero_le _⟩⟩

theorem lawAcks : Law Try.prog 9 (rdD.one.sp spEv) := by
  refine law_in _ (by kernel_rfl) fun H w l hok hp => ?_
  have hl : EvRows l := hp _ (List.mem_singleton.2 rfl)
  apply exec_sound ctPOk 900
  rw [show rdD.one.canon l = [.dat l] from rfl, p9_in]
  refine ⟨fun _ => ret_lbt, fun hc hs => ?_⟩
  have hlen : l.len ≤ 60 := by have := of_decide_eq_false hc; omega
  refine cellsTo (cs' := List.map CV.sv (CV.int 3 :: CV.int 0 :: CV.int 0 :: CV.int 0 :: CV.dat ((hs 0 0).like ([0, 0, 0] : List Int)) :: CV.dat ((hs 0 1).like [false, false, false]) :: CV.bool false :: CV.int 0 :: CV.int 0 :: CV.int 0 :: CV.int 0 :: CV.bool false :: CV.int 0 :: CV.dat (D.slc none 0 []) :: CV.dat (D.slc none 0 []) :: CV.int 0 :: CV.int 0 :: CV.int 0 :: CV.int 0 :: CV.bool false :: CV.int 0 :: CV.dat (D.slc none 0 []) :: CV.dat (D.slc none 0 []) :: CV.int 0 :: CV.int 0 :: CV.int 0 :: CV.int 0 :: CV.bool false :: CV.int 0 :: CV.dat (D.slc none 0 []) :: CV.dat (D.slc none 0 []) :: CV.dat (D.slc none 0 []) :: CV.dat (D.slc none 0 []) :: CV.dat (D.slc none 0 []) :: CV.dat (D.slc none 0 []) :: CV.int 0 :: CV.int 0 :: CV.bool true :: CV.int 0 :: [])) (fun E => rfl) (fun H ho => ?_) ?_
  · have h0 : D.Ok H (D.slc none 0 []) := .nil 0
    have hsl : (D.slc none 0 []).IsSlc := ⟨_, _, _, rfl⟩
    have hnil : SV.Ok H (.dat (D.slc none 0 [])) := ⟨h0, hsl⟩
    exact ⟨trivial, trivial, trivial, trivial, ho.2.2.2.2.1, ho.2.2.2.2.2.1, trivial, trivial, trivial, trivial, trivial, trivial, trivial, hnil, hnil, trivial, trivial, trivial, trivial, trivial, trivial, hnil, hnil, trivial, trivial, trivial, trivial, trivial, trivial, hnil, hnil, hnil, hnil, hnil, hnil, trivial, trivial, trivial, trivial, trivial⟩
  · refine runs_loop (σ := { cs : List CV // ShapeC grK cs } × Nat) (fun q => p9L l (q.1.1.map CV.sv) q.2) (fun q => q.2 ≤ l.len ∧ GrRight q.1.1 ∧ PlayOk (grOf q.1.1) q.2) (fun q => l.len - q.2) (fun _ => rfl) ?_ (⟨(CV.int 3 :: CV.int 0 :: CV.int 0 :: CV.int 0 :: CV.dat ((hs 0 0).like ([0, 0, 0] : List Int)) :: CV.dat ((hs 0 1).like [false, false, false]) :: CV.bool false :: CV.int 0 :: CV.int 0 :: CV.int 0 :: CV.int 0 :: CV.bool false :: CV.int 0 :: CV.dat (D.slc none 0 []) :: CV.dat (D.slc none 0 []) :: CV.int 0 :: CV.int 0 :: CV.int 0 :: CV.int 0 :: CV.bool false :: CV.int 0 :: CV.dat (D.slc none 0 []) :: CV.dat (D.slc none 0 []) :: CV.int 0 :: CV.int 0 :: CV.int 0 :: CV.int 0 :: CV.bool false :: CV.int 0 :: CV.dat (D.slc none 0 []) :: CV.dat (D.slc none 0 []) :: CV.dat (D.slc none 0 []) :: CV.dat (D.slc none 0 []) :: CV.dat (D.slc none 0 []) :: CV.dat (D.slc none 0 []) :: CV.int 0 :: CV.int 0 :: CV.bool true :: CV.int 0 :: []), beg_shape hs⟩, 0) ⟨Nat.zero_le _, beg_right hs, by rw [beg_eq]; exact beg_play⟩
    intro ⟨⟨cs, hsh⟩, i⟩ ⟨hi, hR, hpl⟩ ih
    simp only at hi hR hpl
    obtain ⟨cn, cr, cp, cdl, cps, css, cv, p1, p2, p3, p4, pf, p6, pw, ph, q1, q2, q3, q4, qf, q6, qw, qh, r1, r2, r3, r4, rf, r6, rw, rh, fl, wa, wb, wc, now, clk, rt, st, rfl⟩ := gr_shape hsh
    refine p9_step hl hlen hi hR hpl fun cs hsh hR hp hi => ?_
    exact ih (⟨cs, hsh⟩, i + 1) ⟨hi, hR, hp⟩ (by simp only; omega)
end Go.Proofs.Ytoechplbhbalaaa
end
section
/- Layer 21: how the events of a play read. -/
open Go
namespace Sx
theorem wf_u8 {n : Int} (h : (Lit.int .u8 n).wf = true) : U8 n := by
  simp only [Lit.wf, Bool.and_eq_true, decide_eq_true_eq] at h
  exact ⟨h.1, h.2⟩
theorem sh_events {l : D} (h : TS.Sh (.slc (.st [.int .u8, .int .u8, .int .u8])) [l]) : EvRows l ∧ l.IsSlc := by
  simp only [TS.Sh] at h
  obtain ⟨a, s, rows, h1, h2, h3, h4⟩ := h
  simp only [List.cons.injEq, and_true] at h1
  subst h1
  refine ⟨⟨h2.imp id fun h => by simpa [D.sz, TS.sz, TS.szL] using h, fun r hr => ?_⟩, ⟨_, _, _, rfl⟩⟩
  have := h4 r hr
  simp only [TS.ShL, TS.Sh] at this
  obtain ⟨_, _, rfl, ⟨k, rfl, w1⟩, _, _, rfl, ⟨x, rfl, w2⟩, _, _, rfl, ⟨y, rfl, w3⟩, rfl⟩ := this
  exact ⟨k, x, y, rfl, wf_u8 w1, wf_u8 w2, wf_u8 w3⟩
end Sx
end
