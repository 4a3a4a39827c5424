/- Maps of one's own; bytes as a string. -/
import Derived.Test.YtoechplbhbalaaaAtoI
import Derived.Scope
import Derived.OrdersHeld
set_option linter.all false
section
namespace Sx
open Go RowKit
open MapKept (IsKey run_checkKey run_findKey run_setObj_map)

section
variable {P : Program} {C : Ctx} {m : Mem} {E : Env} {H : HV} {w : World} {key : Nat}

theorem Good.allocMap (g : Good C m E H w) (hk : Mem.has key m = false) :
    Good C ((key, .map []) :: m) (E.set key w.heap.size) H (w.alloc (.map #[] 0)) := by
  have ha := E.agree_set key w.heap.size
  have hb : (E.set key w.heap.size).b key = w.heap.size := by simp [Env.set]
  refine g.cons hk ha ((Below.refl _ _).alloc (Nat.le_refl _) _) ⟨?_, ?_, ⟨#[], 0, ?_, List.Perm.refl _⟩, by simp, by simp, List.Pairwise.nil⟩ (fun _ j p hj hl => by rw [hb]; have := (g.own j p hj).lt hl; omega)
  · rw [hb]; exact g.below.size
  · rw [hb]; exact g.noH_new (Nat.le_refl _)
  · rw [hb]; exact heap_alloc_new w _

theorem keeps_allocO {o : OBlk} {ob : Obj} (hk : Mem.has key m = false) : Keeps m E H w key ((key, o) :: m) (E.set key w.heap.size) H (w.alloc ob) := by
  refine ⟨by simp, fun j hj _ => heap_alloc_old w _ hj, fun _ _ _ h => .inl h, fun q o hq => ?_, fun q o hq hl => ?_, rfl, rfl, rfl⟩
  · rcases List.mem_cons.1 hq with hq | hq
    · cases hq; exact .inl rfl
    · exact .inr ⟨o, hq⟩
  · rcases List.mem_cons.1 hq with hq | hq
    · cases hq; left; simp [Env.set]
    · right; exact ⟨q, o, hq, hl, ((E.agree_set key w.heap.size).1 q (Mem.has_key hk _ hq).1).1⟩

theorem toList_madeCells {zc : Array Value} {zr : List D} (h : zr.map D.val = zc.toList) (h0 : 0 < zr.length) (c : Nat) : (madeCells zc (c * zr.length)).toList = flat (List.replicate c zr) := by
  have hl : ∀ r, r ∈ List.replicate c zr → r.length = zr.length := fun r hr => by rw [List.eq_of_mem_replicate hr]
  have hzs : zc.size = zr.length := by rw [← Array.length_toList, ← h, List.length_map]
  apply List.ext_getElem?
  intro j
  rcases Nat.lt_or_ge j (c * zr.length) with hj | hj
  · have hi : j / zr.length < c := (Nat.div_lt_iff_lt_mul h0).2 hj
    have hk : j % zr.length < zr.length := Nat.mod_lt _ h0
    have hf := flat_get hl (j / zr.length) (j % zr.length) zr zr[j % zr.length] (by simp [hi]) (by simp [hk])
    rw [Nat.div_add_mod'] at hf
    rw [hf]
    have hz : zc[j % zr.length]? = some (zr[j % zr.length]).val := by
      rw [← Array.getElem?_toList, ← h, List.getElem?_map, List.getElem?_eq_getElem hk]; rfl
    simp only [madeCells, Array.toList_map, List.getElem?_map, Array.getElem?_toList, hzs]
    rw [Array.getElem?_range]
    simp only [hj, if_true, Option.map_some, Option.some.injEq]
    simp [getElem!_def, hz]
  · rw [List.getElem?_eq_none (by simp [madeCells]; omega), List.getElem?_eq_none (by rw [flat_len hl]; simpa using hj)]

theorem Good.makeArr (g : Good C m E H w) (hk : Mem.has key m = false) {e : TypeId} {zc : Array Value} {zr : List D} (hz : zr.map D.val = zc.toList) (h0 : 0 < zr.length) (hok : ∀ x, x ∈ zr → x.Ok H) (c : Nat) (hc : c ≤ maxLen) :
    Good C ((key, .arr e (.slc (some (⟨w.heap.size, 0, none⟩, c)) zr.length (List.replicate c zr))) :: m) (E.setV key w.heap.size (some (⟨w.heap.size, 0, none⟩, c), c)) H (w.alloc (.cells (madeCells zc (c * zr.length)) e)) := by
  have ha := E.agree_setV key w.heap.size (some (⟨w.heap.size, 0, none⟩, c), c)
  have hb : (E.setV key w.heap.size (some (⟨w.heap.size, 0, none⟩, c), c)).b key = w.heap.size := by simp [Env.setV]
  have hl : ∀ r, r ∈ List.replicate c zr → r.length = zr.length := fun r hr => by rw [List.eq_of_mem_replicate hr]
  refine g.cons hk ha ((Below.refl _ _).alloc (Nat.le_refl _) _) ⟨_, _, _, rfl, by simp [Env.setV], ⟨by rw [flat_len hl], .inr ⟨w.heap.size, c, _, by simp [D.val, hval], g.below.size, heap_alloc_new w _, by simp, hc, by rw [size_madeCells], ?_⟩⟩, hl, fun r hr x hx => hok x (by rw [List.eq_of_mem_replicate hr] at hx; exact hx), fun a c' h => ?_⟩ (fun _ j p hj hl => by rw [hb]; have := (g.own j p hj).lt hl; omega)
  · rw [toList_madeCells hz h0, List.length_replicate, List.take_of_length_le (by rw [flat_len hl]; simp)]
  · simp only [Option.some.injEq, Prod.mk.injEq] at h
    obtain ⟨rfl, _⟩ := h
    exact ⟨by rw [hb], by rw [hb]; exact g.noH_new (Nat.le_refl _)⟩

theorem keeps_makeArr {o : OBlk} {ob : Obj} {v : Hd × Nat} (hk : Mem.has key m = false) : Keeps m E H w key ((key, o) :: m) (E.setV key w.heap.size v) H (w.alloc ob) := by
  refine ⟨by simp, fun j hj _ => heap_alloc_old w _ hj, fun _ _ _ h => .inl h, fun q o hq => ?_, fun q o hq hl => ?_, rfl, rfl, rfl⟩
  · rcases List.mem_cons.1 hq with hq | hq
    · cases hq; exact .inl rfl
    · exact .inr ⟨o, hq⟩
  · rcases List.mem_cons.1 hq with hq | hq
    · cases hq; left; simp [Env.setV]
    · right; exact ⟨q, o, hq, hl, ((E.agree_setV key w.heap.size v).1 q (Mem.has_key hk _ hq).1).1⟩

/-- What a search in a map comes to, its keys being numbers. -/
theorem findNow_spec {n : Int} {k : IntKind} : ∀ {ents : List MapEntry} (i : Nat), (∀ e, e ∈ ents → ∃ n', e.key = .int k n') →
    (Instr.findNow (.int k) (.int k n) ents i = some none ∧ ∀ e, e ∈ ents → e.key ≠ .int k n) ∨
    (∃ i' e, Instr.findNow (.int k) (.int k n) ents i = some (some (i', e.val)) ∧ e ∈ ents ∧ e.key = .int k n)
  | [], i, _ => .inl ⟨rfl, by simp⟩
  | e :: r, i, h => by
    obtain ⟨n', hn⟩ := h e List.mem_cons_self
    by_cases hnn : n = n'
    · subst hnn
      exact .inr ⟨i, e, by simp [Instr.findNow, Instr.sameNow, hn], List.mem_cons_self, hn⟩
    · have hb : (n == n') = false := by simpa using hnn
      have hne : e.key ≠ .int k n := by rw [hn]; simp [Ne.symm hnn]
      rcases findNow_spec (i + 1) (fun x hx => h x (List.mem_cons_of_mem _ hx)) with ⟨h1, h2⟩ | ⟨i', e', h1, h2, h3⟩
      · refine .inl ⟨by simpa [Instr.findNow, Instr.sameNow, hn, hb] using h1, fun x hx => ?_⟩
        rcases List.mem_cons.1 hx with rfl | hx
        · exact hne
        · exact h2 x hx
      · exact .inr ⟨i', e', by simpa [Instr.findNow, Instr.sameNow, hn, hb] using h1, List.mem_cons_of_mem _ h2, h3⟩

theorem lookA_spec {n : Int} {k : IntKind} {d : SV} (ok : Bool) : ∀ {es : List (SV × SV)} {l : List (Bool × SV)}, lookA n k es = some l →
    (∀ e, e ∈ es → ∃ n', e.1 = .int k n') ∧
    (((∀ e, e ∈ es → e.1 ≠ .int k n) ∧ pickA (okd ok d false) (l.map fun a => (a.1, okd ok a.2 true)) = okd ok d false) ∨
     (∃ e, e ∈ es ∧ e.1 = .int k n ∧ pickA (okd ok d false) (l.map fun a => (a.1, okd ok a.2 true)) = okd ok e.2 true))
  | [], l, h => by
    simp [lookA] at h; subst h
    exact ⟨by simp, .inl ⟨by simp, rfl⟩⟩
  | (a, v) :: r, l, h => by
    simp only [lookA] at h
    split at h
    · rename_i k' n' l' hl
      split at h
      · rename_i hk
        subst hk
        cases h
        obtain ⟨i1, i2⟩ := lookA_spec (d := d) ok hl
        refine ⟨fun e he => ?_, ?_⟩
        · rcases List.mem_cons.1 he with rfl | he
          · exact ⟨n', rfl⟩
          · exact i1 e he
        · by_cases hn : n = n'
          · subst hn
            exact .inr ⟨_, List.mem_cons_self, rfl, by simp [pickA]⟩
          · have hb : (n == n') = false := by simpa using hn
            have hne : (SV.int k' n') ≠ .int k' n := by simp [Ne.symm hn]
            rcases i2 with ⟨h2, h3⟩ | ⟨e, h2, h3, h4⟩
            · refine .inl ⟨fun e he => ?_, by simp only [List.map_cons, pickA, hb]; exact h3⟩
              rcases List.mem_cons.1 he with rfl | he
              · exact hne
              · exact h2 e he
            · exact .inr ⟨e, List.mem_cons_of_mem _ h2, h3, by simp only [List.map_cons, pickA, hb]; exact h4⟩
      · cases h
    · cases h

theorem pair_unique {es : List (SV × SV)} (h : es.Pairwise fun x y => x.1 ≠ y.1) {a b : SV × SV} (ha : a ∈ es) (hb : b ∈ es) (e : a.1 = b.1) : a = b := by
  induction es with
  | nil => cases ha
  | cons x r ih =>
    rw [List.pairwise_cons] at h
    rcases List.mem_cons.1 ha with ha | ha <;> rcases List.mem_cons.1 hb with hb | hb
    · rw [ha, hb]
    · exact absurd (ha ▸ e) (h.1 _ hb)
    · exact absurd (hb ▸ e.symm) (h.1 _ ha)
    · exact ih h.2 ha hb

/-- The entries in memory and those that are known. -/
theorem ents_of {E : Env} {es : List (SV × SV)} {ents : List MapEntry} (hp : (ents.map (fun e => (e.key, e.val))).Perm (es.map (fun e => (e.1.den E, e.2.den E)))) :
    (∀ e, e ∈ ents → ∃ x, x ∈ es ∧ e.key = x.1.den E ∧ e.val = x.2.den E) ∧ (∀ x, x ∈ es → ∃ e, e ∈ ents ∧ e.key = x.1.den E ∧ e.val = x.2.den E) := by
  refine ⟨fun e he => ?_, fun x hx => ?_⟩
  · have := hp.subset (List.mem_map.2 ⟨e, he, rfl⟩)
    obtain ⟨x, hx, h⟩ := List.mem_map.1 this
    simp only [Prod.mk.injEq] at h
    exact ⟨x, hx, h.1.symm, h.2.symm⟩
  · have := hp.symm.subset (List.mem_map.2 ⟨x, hx, rfl⟩)
    obtain ⟨e, he, h⟩ := List.mem_map.1 this
    simp only [Prod.mk.injEq] at h
    exact ⟨e, he, h.1, h.2⟩

theorem okd_den (ok : Bool) (v : SV) (b : Bool) : (okd ok v b).den E = if ok then .tuple #[v.den E, .bool b] else v.den E := by
  cases ok <;> simp [okd, SV.den, SV.denL]
theorem okd_ok {ok : Bool} {v : SV} (b : Bool) (h : v.Ok H) : (okd ok v b).Ok H := by
  cases ok <;> simp [okd, SV.Ok, SV.OkL, h]

theorem lookR_spec (g : Good C m E H w) {t : TypeId} {x i : SV} {ok : Bool} {l : List (Bool × SV)} {d : SV} (h : lookR P m t x i ok = some (l, d)) :
    (Instr.lookup t (x.den E) (i.den E) ok).run P w = .ok ((pickA d l).den E) w ∧ (pickA d l).Ok H := by
  unfold lookR at h
  split at h
  · rename_i kt et key k n ht
    split at h
    · rename_i k' es inf hkt hm hinf
      split at h
      · rename_i hk
        subst hk
        split at h
        · rename_i l' z hl hz
          cases h
          obtain ⟨_, _, ⟨ents, clock, hb, he⟩, hok, hkeys⟩ := g.own key _ (Mem.get_mem hm)
          have hkey : IsKey (.int k') (.int k' n) := rfl
          have hzero : (zeroValue et).run P w = .ok z w := by simp [zeroValue, typeInfo, hinf, hz]
          obtain ⟨e1, e2⟩ := ents_of he
          obtain ⟨l1, l2⟩ := lookA_spec (d := ofVal z) ok hl
          have hint : ∀ e, e ∈ ents.toList → ∃ n', e.key = .int k' n' := fun e hee => by
            obtain ⟨x, hx, h1, _⟩ := e1 e hee
            obtain ⟨n', hn'⟩ := l1 x hx
            exact ⟨n', by rw [h1, hn']; simp [SV.den]⟩
          have hfind := findNow_spec (n := n) 0 hint
          rcases l2 with ⟨h1, h2⟩ | ⟨x, hx, h1, h2⟩
          · rw [h2]
            have hf : Instr.findNow (.int k') (.int k' n) ents.toList 0 = some none := by
              rcases hfind with ⟨h3, _⟩ | ⟨i', e, h3, h4, h5⟩
              · exact h3
              · exfalso
                obtain ⟨y, hy, h6, _⟩ := e1 e h4
                obtain ⟨n', hn'⟩ := l1 y hy
                rw [h5, hn'] at h6
                simp only [SV.den, Value.int.injEq, true_and] at h6
                exact h1 y hy (by rw [hn', h6])
            refine ⟨?_, okd_ok _ (ok_ofVal H z)⟩
            rw [okd_den, den_ofVal]
            simp only [SV.den, Instr.lookup, Sem.run_bind, run_underlying ht, Result.andThen_ok, MapKept.run_getObj_map hb, Sem.run_pure, run_checkKey hkt hkey, run_findKey hkt hf, hzero]
            try rfl
          · rw [h2]
            obtain ⟨i', hf⟩ : ∃ i', Instr.findNow (.int k') (.int k' n) ents.toList 0 = some (some (i', x.2.den E)) := by
              rcases hfind with ⟨_, h3⟩ | ⟨i', e, h3, h4, h5⟩
              · exfalso
                obtain ⟨e, hee, h4, _⟩ := e2 x hx
                exact h3 e hee (by rw [h4, h1]; simp [SV.den])
              · obtain ⟨y, hy, h6, h7⟩ := e1 e h4
                obtain ⟨n', hn'⟩ := l1 y hy
                rw [h5, hn'] at h6
                simp only [SV.den, Value.int.injEq, true_and] at h6
                have : y = x := pair_unique hkeys.2 hy hx (by rw [hn', h1, h6])
                subst this
                exact ⟨i', by rw [h3, h7]⟩
            refine ⟨?_, okd_ok _ (hok x hx).2⟩
            rw [okd_den]
            simp only [SV.den, Instr.lookup, Sem.run_bind, run_underlying ht, Result.andThen_ok, MapKept.run_getObj_map hb, Sem.run_pure, run_checkKey hkt hkey, run_findKey hkt hf]
            try rfl
        · cases h
      · cases h
    · cases h
  · cases h

theorem newK_spec {k : IntKind} {n : Int} {es : List (SV × SV)} (h : newK k n es = true) : ∀ e, e ∈ es → ∃ n', e.1 = .int k n' ∧ n ≠ n' := by
  intro e he
  have := List.all_eq_true.1 h e he
  split at this
  · rename_i k2 n2 hk
    simp only [Bool.and_eq_true, decide_eq_true_eq, Bool.not_eq_true', beq_eq_false_iff_ne, ne_eq] at this
    exact ⟨n2, by rw [hk, this.1], this.2⟩
  · cases this

theorem insE_perm (k : IntKind) (n : Int) (v : SV) : ∀ es : List (SV × SV), (insE k n v es).Perm ((.int k n, v) :: es)
  | [] => List.Perm.refl _
  | e :: r => by
    simp only [insE]
    split
    · exact List.Perm.refl _
    · exact ((insE_perm k n v r).cons e).trans (List.Perm.swap _ _ _)

theorem keysOk_ins {k : IntKind} {n : Int} {v : SV} {es : List (SV × SV)} (h : KeysOk es) (hn : newK k n es = true) : KeysOk (insE k n v es) := by
  have hp := insE_perm k n v es
  refine ⟨fun e he => ?_, ?_⟩
  · rcases List.mem_cons.1 (hp.subset he) with rfl | he
    · exact ⟨k, n, rfl⟩
    · exact h.1 e he
  · refine (hp.pairwise_iff (fun {a b} (h : a.1 ≠ b.1) => h.symm)).2 (List.pairwise_cons.2 ⟨fun e he => ?_, h.2⟩)
    obtain ⟨n', h1, h2⟩ := newK_spec hn e he
    rw [h1]
    simpa using h2

theorem insOk_spec {t : TypeId} {x i : SV} {K : Nat} {k : IntKind} {n : Int} (h : insOk P m t x i = some (K, k, n)) :
    ∃ kt et es, P.underlying t = some (.map kt et) ∧ P.underlying kt = some (.int k) ∧ x = .mapp K ∧ i = .int k n ∧ m.get K = some (.map es) ∧ newK k n es = true := by
  unfold insOk at h
  split at h
  · rename_i kt et key k1 n1 ht
    split at h
    · rename_i k' es hkt hm
      split at h
      · rename_i hc
        obtain ⟨rfl, hall⟩ := hc
        cases h
        exact ⟨kt, et, es, ht, hkt, rfl, rfl, hm, hall⟩
      · cases h
    · cases h
  · cases h

theorem insOk_of {t : TypeId} {x i : SV} {K : Nat} {k : IntKind} {n : Int} {kt et : TypeId} {es : List (SV × SV)} (h1 : P.underlying t = some (.map kt et)) (h2 : P.underlying kt = some (.int k)) (h3 : x = .mapp K) (h4 : i = .int k n)
    (h5 : m.get K = some (.map es)) (h6 : newK k n es = true) : insOk P m t x i = some (K, k, n) := by
  subst h3; subst h4
  simp [insOk, h1, h2, h5, h6]

theorem insR_spec (g : Good C m E H w) {t : TypeId} {x i v : SV} {m' : Mem} (hv : v.Ok H) (h : insR P m t x i v = some m') :
    ∃ w', (Instr.mapUpdate t (x.den E) (i.den E) (v.den E)).run P w = .ok () w' ∧ Good C m' E H w' ∧ ∀ key, Keeps m E H w key m' E H w' := by
  unfold insR at h
  split at h
  · rename_i key k' n hins
    obtain ⟨kt, et, es, ht, hkt, rfl, rfl, hm, hall⟩ := insOk_spec hins
    simp only [hm, insO, Option.some.injEq] at h
    subst h
    have hmem := Mem.get_mem hm
    obtain ⟨h1, h2, ⟨ents, clock, hb, he⟩, hok, hkeys⟩ := g.own key _ hmem
    have hkey : IsKey (.int k') (.int k' n) := rfl
    obtain ⟨e1, _⟩ := ents_of he
    have hfind : Instr.findNow (.int k') (.int k' n) ents.toList 0 = some none := by
      rcases findNow_spec (k := k') (n := n) (ents := ents.toList) 0 (fun e hee => by
        obtain ⟨y, hy, h6, _⟩ := e1 e hee
        obtain ⟨n', h7, _⟩ := newK_spec hall y hy
        exact ⟨n', by rw [h6, h7]; simp [SV.den]⟩) with ⟨h3, _⟩ | ⟨i', e, h3, h4, h5⟩
      · exact h3
      · exfalso
        obtain ⟨y, hy, h6, _⟩ := e1 e h4
        obtain ⟨n', h7, h8⟩ := newK_spec hall y hy
        rw [h5, h7] at h6
        simp only [SV.den, Value.int.injEq, true_and] at h6
        exact h8 h6
    have hlt : E.b key < w.heap.size := (Array.getElem?_eq_some_iff.1 hb).1
    refine ⟨{ w with heap := w.heap.setIfInBounds (E.b key) (.map (ents.push { key := .int k' n, val := v.den E, born := clock }) (clock + 1)) }, ?_, ?_, fun q => ?_⟩
    · simp only [SV.den, Instr.mapUpdate, Sem.run_bind, run_underlying ht, Result.andThen_ok, MapKept.run_getObj_map hb, run_checkKey hkt hkey, run_findKey hkt hfind]
      exact run_setObj_map _ hb
    · refine g.put hm (fun j hj => by simp [Ne.symm hj]) rfl rfl rfl (by simp) trivial ⟨h1, h2, ⟨_, _, by simp [hlt]; exact ⟨rfl, rfl⟩, ?_⟩, fun e he' => ?_, keysOk_ins hkeys hall⟩
      · simp only [Array.toList_push, List.map_append, List.map_cons, List.map_nil]
        refine (List.perm_append_comm.trans ?_)
        simp only [List.singleton_append]
        refine ((he.cons _).trans ?_)
        have := ((insE_perm k' n v es).map (fun e => (e.1.den E, e.2.den E))).symm
        simpa [SV.den] using this
      · rcases List.mem_cons.1 ((insE_perm k' n v es).subset he') with rfl | h3
        · exact ⟨by simp [SV.Ok], hv⟩
        · exact hok e h3
    · have hspec := Mem.set_spec (o' := .map (insE k' n v es)) g.keys hm
      refine ⟨by simp, fun j hj hno => by simp [(fun e => hno key _ hmem trivial e : E.b key ≠ j)], fun _ _ _ h => .inl h, fun q o hq => ?_, fun q o hq hl2 => ?_, rfl, rfl, rfl⟩
      · rcases hspec q o hq with ⟨rfl, _⟩ | ⟨_, h⟩
        · exact .inr ⟨_, hmem⟩
        · exact .inr ⟨o, h⟩
      · rcases hspec q o hq with ⟨rfl, _⟩ | ⟨_, h⟩
        · exact .inr ⟨q, _, hmem, trivial, rfl⟩
        · exact .inr ⟨q, o, h, hl2, rfl⟩
  · cases h

/-- Two that are put in, in either order. -/
theorem insE_comm {k k' : IntKind} {n n' : Int} {v v' : SV} (h : n ≠ n') : ∀ es : List (SV × SV), insE k n v (insE k' n' v' es) = insE k' n' v' (insE k n v es)
  | [] => by
    by_cases h1 : n < n'
    · have : ¬ n' < n := by omega
      simp [insE, keyGt, h1, this]
    · have : n' < n := by omega
      simp [insE, keyGt, h1, this]
  | e :: r => by
    have ih := insE_comm (k := k) (k' := k') (v := v) (v' := v') h r
    obtain ⟨a, u⟩ := e
    -- is it behind this one?
    have key : ∀ (k : IntKind) (n : Int) (v : SV) (l : List (SV × SV)), insE k n v ((a, u) :: l) = if keyGt n a = true then (.int k n, v) :: (a, u) :: l else (a, u) :: insE k n v l := by
      intro k n v l
      simp only [insE]
      split <;> simp_all
    have front : ∀ (k k' : IntKind) (n n' : Int) (v v' : SV) (l : List (SV × SV)), insE k n v ((.int k' n', v') :: l) = if n < n' then (.int k n, v) :: (.int k' n', v') :: l else (.int k' n', v') :: insE k n v l := by
      intro k k' n n' v v' l
      by_cases hlt : n < n' <;> simp [insE, keyGt, hlt]
    rw [key k' n' v', key k n v]
    by_cases c1 : keyGt n' a = true <;> by_cases c2 : keyGt n a = true
    · rw [if_pos c1, if_pos c2, front, front, key k n v, key k' n' v', if_pos c1, if_pos c2]
      by_cases hlt : n < n'
      · have : ¬ n' < n := by omega
        simp [hlt, this]
      · have : n' < n := by omega
        simp [hlt, this]
    · rw [if_pos c1, if_neg c2, front, key k n v, key k' n' v', if_neg c2, if_pos c1]
      have : ¬ n < n' := by
        cases a <;> simp [keyGt] at c1 c2
        omega
      simp [this]
    · rw [if_neg c1, if_pos c2, front, key k n v, key k' n' v', if_pos c2, if_neg c1]
      have : ¬ n' < n := by
        cases a <;> simp [keyGt] at c1 c2
        omega
      simp [this]
    · rw [if_neg c1, if_neg c2, key k n v, key k' n' v', if_neg c1, if_neg c2, ih]

theorem newK_ins {k k' : IntKind} {n n' : Int} {v' : SV} {es : List (SV × SV)} : newK k n (insE k' n' v' es) = true ↔ (k' = k ∧ n ≠ n') ∧ newK k n es = true := by
  unfold newK
  have hp := insE_perm k' n' v' es
  rw [hp.all_eq]
  simp [and_assoc]

theorem bytes_spec (g : Good C m E H w) {src dst e : TypeId} {x : SV} {d : D} (hx : x.Ok H) (hd : dataOf m x = some d) (hb : d.IsBytes)
    (hs : P.underlying src = some (.slice e)) (he : P.underlying e = some (.int .u8)) (ht : P.underlying dst = some .string) :
    (convert src dst (x.den E)).run P w = .ok (.string d.bytesOf) w := by
  obtain ⟨hv, hr, _⟩ := dataOf_spec g hx hd
  obtain ⟨ns, hns⟩ := hb
  have hfold : d.bytesOf = ns.foldl (fun r n => r.push (UInt8.ofNat n.toNat)) ByteArray.empty := by
    simp only [D.bytesOf, hns, List.foldl_map]
  rcases hr.2 with ⟨h1, h2⟩ | ⟨a, c, h1, h2⟩
  · rw [h1, run_convert_bytes_string w src dst e _ _ _ hs he ht]
    have : ns = [] := by rw [hns] at h2; simpa using h2
    rw [hfold, this]
    simp [Conv.bytesToString]
  · rw [h1, run_convert_bytes_string w src dst e _ _ _ hs he ht, hfold]
    refine run_bytesToString w a _ c ns ?_
    have hf : flat d.rows = ns.map (Value.int .u8) := by
      rw [hns]; simp only [flat]
      clear hns hfold
      induction ns with
      | nil => rfl
      | cons a r ih => simp only [List.map_cons, List.flatten_cons, List.map_append, ih]; rfl
    have := run_loadCells_list (P := P) w a (flat d.rows) h2
    rw [hf] at this
    rw [hns]
    simpa using this
end
end Sx
end
section
/- One operation: what it gives; and that the model gives the same. -/
namespace Sx
open Go RowKit

theorem pubsR_spec {C : Ctx} {E : Env} {w : World} : ∀ (l : List SV) {m : Mem} {H : HV}, Good C m E H w → ∃ H', HLe H H' ∧ Good C (pubsR l m) E H' w ∧
    (∀ b o v, H' b o = some v → H b o = some v ∨ ∃ k o, (k, o) ∈ m ∧ o.Lies ∧ E.b k = b)
  | [], m, H, g => ⟨H, HLe.refl H, g, fun _ _ _ h => .inl h⟩
  | x :: r, m, H, g => by
    obtain ⟨H1, h1, g1, _, n1⟩ := pubR_spec g x
    obtain ⟨H2, h2, g2, n2⟩ := pubsR_spec r g1
    refine ⟨H2, h1.trans h2, g2, fun b o v hb => ?_⟩
    rcases n2 b o v hb with h | ⟨k, p, h3, h4, h5⟩
    · exact n1 b o v h
    · exact .inr ⟨k, p, (pubR_mem k p h3).2 h4, h4, h5⟩

theorem pubsR_mem : ∀ (l : List SV) {m : Mem} (k : Nat) (o : OBlk), (k, o) ∈ pubsR l m → (∃ o', (k, o') ∈ m) ∧ (o.Lies → (k, o) ∈ m)
  | [], m, k, o, h => ⟨⟨o, h⟩, fun _ => h⟩
  | x :: r, m, k, o, h => by
    obtain ⟨⟨o', h1⟩, h2⟩ := pubsR_mem r k o h
    exact ⟨(pubR_mem k o' h1).1, fun hl => (pubR_mem k o (h2 hl)).2 hl⟩

/-- Publishing alone. -/
theorem keeps_pub {m m' : Mem} {E : Env} {H H' : HV} {w : World} {key : Nat} (h1 : ∀ k o, (k, o) ∈ m' → (∃ o', (k, o') ∈ m) ∧ (o.Lies → (k, o) ∈ m))
    (h2 : ∀ b o v, H' b o = some v → H b o = some v ∨ ∃ k o, (k, o) ∈ m ∧ o.Lies ∧ E.b k = b) : Keeps m E H w key m' E H' w :=
  ⟨Nat.le_refl _, fun _ _ _ => rfl, fun b x v h => (h2 b x v h).imp id .inr, fun k o h => .inr (h1 k o h).1, fun k o h hl => .inr ⟨k, o, (h1 k o h).2 hl, hl, rfl⟩, rfl, rfl, rfl⟩

theorem Mem.has_set {m : Mem} {k j : Nat} {d : D} (h : Mem.has k m = false) : Mem.has k (m.set j (.pub d)) = false := by
  induction m with
  | nil => simp [Mem.set, Mem.has]
  | cons x r ih =>
    obtain ⟨i, p⟩ := x
    simp only [Mem.has, List.any_cons, Bool.or_eq_false_iff] at h
    have ih' := ih (by simpa [Mem.has] using h.2)
    simp only [Mem.set]
    split
    · simp only [Mem.has, List.any_cons, Bool.or_eq_false_iff]
      exact ⟨⟨h.1.1, rfl⟩, by simpa using h.2⟩
    · simp only [Mem.has, List.any_cons, Bool.or_eq_false_iff]
      exact ⟨h.1, by simpa [Mem.has] using ih'⟩

theorem has_pubR {m : Mem} {k : Nat} (h : Mem.has k m = false) (x : SV) : Mem.has k (pubR m x) = false := by
  unfold pubR
  split
  · split
    · exact Mem.has_set h
    · exact h
  · exact h

theorem has_pubsR {k : Nat} : ∀ (l : List SV) {m : Mem}, Mem.has k m = false → Mem.has k (pubsR l m) = false
  | [], _, h => h
  | x :: r, _, h => has_pubsR r (has_pubR h x)

theorem Mem.has_del {m : Mem} {k j : Nat} (h : Mem.has k m = false) : Mem.has k (m.del j) = false := by
  simp only [Mem.has, List.any_eq_false] at h ⊢
  exact fun x hx => h x (Mem.del_mem hx)

theorem Mem.del_ne {m : Mem} {k : Nat} {o : OBlk} (hkeys : m.Pairwise fun x y => x.1 ≠ y.1) (hmem : (k, o) ∈ m) {j : Nat} {p : OBlk} (hj : (j, p) ∈ m.del k) : j ≠ k := by
  induction m with
  | nil => cases hj
  | cons y r ih =>
    obtain ⟨q, z⟩ := y
    rw [List.pairwise_cons] at hkeys
    simp only [Mem.del] at hj
    split at hj
    · rename_i hq; simp at hq; subst hq; exact (hkeys.1 _ hj).symm
    · rename_i hq
      simp at hq
      rcases List.mem_cons.1 hj with h | h
      · cases h; exact hq
      · rcases List.mem_cons.1 hmem with h2 | h2
        · cases h2; exact absurd rfl hq
        · exact ih hkeys.2 h2 h

def cellsOfL : List SV → List SV
  | [] => []
  | x :: r => (match x.cells? with | some l => l | none => []) ++ cellsOfL r

section
variable (P : Program)

def appR (ev : Operand → SV) (m : Mem) (key : Nat) (s x : Operand) (t t' : TypeId) : OpR :=
  if t = t' then
    match P.underlying t with
    | some (.slice e) => match P.info? e with
      | some i => match i.zero, dataOf m (ev x) with
        | some z, some d2 =>
          if z.cells.size = i.size then
            match ev s with
            | .nils => .all [d2.Fits i.size ∧ d2.len * i.bytes ≤ 140737488355328 ∧ d2.len ≤ 9223372036854775807]
                (fun hs => (.vec key, (key, .arr e (.slc (hs 0).hd i.size d2.rows)) :: m))
            | .vec k => match m.get k with
              | some (.arr e' d) => if e' = e then
                  .all [d.sz = i.size ∧ d2.Fits i.size ∧ (d.len + d2.len) * i.bytes ≤ 140737488355328 ∧ d.len + d2.len ≤ 9223372036854775807]
                    (fun hs => (.vec key, (key, .arr e (.slc (hs 0).hd i.size (d.rows ++ d2.rows))) :: m.del k))
                else .bad
              | _ => .bad
            | _ => .bad
          else .bad
        | _, _ => .bad
      | none => .bad
    | _ => .bad
  else .bad

def callB (ev : Operand → SV) (m : Mem) (key : Nat) (b : Builtin) (args : List Operand) (tys : List TypeId) : OpR :=
  match b, args, tys with
  | .len, [x], [t] => match P.underlying t, dataOf m (ev x) with
    | some (.slice _), some d => .val [] (.int .i64 d.len) m
    | _, _ => .bad
  | .append, [s, x], [t, t'] => appR P ev m key s x t t'
  | .max, [x, y], _ => match ev x, ev y with
    | .int k a, .int _ b => .val [] (.int k (if b > a then b else a)) m
    | _, _ => .bad
  | .min, [x, y], _ => match ev x, ev y with
    | .int k a, .int _ b => .val [] (.int k (if b < a then b else a)) m
    | _, _ => .bad
  | _, _, _ => .bad

def opr (ev : Operand → SV) (m : Mem) (key : Nat) (op : Op) : OpR :=
  match op with
  | .move x => .val [] (ev x) m
  | .assign x => .val [] (ev x) m
  | .pick c a b => match ev c with
    | .lb true => .val [] (ev a) m
    | .lb false => .val [] (ev b) m
    | _ => .bad
  | .alloc t => match P.info? t with
    | some i => match i.zero with
      | some z => match (ofVal z).cells? with
        | some cs => .val [] (.ptr key 0) ((key, .cells t cs) :: m)
        | none => .bad
      | none => .bad
    | none => .bad
  | .box t x => match (ev x).cells? with
    | some cs => .val [] (.ptr key 0) ((key, .cells t cs) :: m)
    | none => .bad
  | .build t ps => match buildR P t (ps.toList.map fun x => (x.1, ev x.2)) with
    | some v => .val [] v m
    | none => .bad
  | .buildSlice t len ps =>
    match P.underlying t with
    | some (.slice e) => match P.info? e with
      | some i => match i.zero, rowsOf (pubsR (cellsOfL (ps.toList.map fun x => ev x.2)) m) i.size 0 (ps.toList.map fun x => (x.1, ev x.2)) with
        | some _, some rows => if len = ps.toList.length ∧ len * i.size ≤ 16777216 ∧ len ≤ 16777216 then
            .all [] (fun hs => (.vec key, (key, .arr e (.slc (hs 0).hd i.size rows)) :: pubsR (cellsOfL (ps.toList.map fun x => ev x.2)) m))
          else .bad
        | _, _ => .bad
      | none => .bad
    | _ => .bad
  | .load t a => match loadR P m t (ev a) with
    | some (ps, v) => .val ps v m
    | none => .bad
  | .store t a x => match storeR P m t (ev a) (ev x) with
    | some (ps, m') => .val ps .undef m'
    | none => .bad
  | .nilCheck x => match ev x with
    | .ptr k o => .val [] (.ptr k o) m
    | .elt d i j => .val [] (.elt d i j) m
    | .velt k s i j => .val [] (.velt k s i j) m
    | .fn f a c => .val [] (.fn f a c) m
    | _ => .bad
  | .binOp op t x y _ => match binR P m op t (ev x) (ev y) with
    | some (ps, v) => .val ps v m
    | none => .bad
  | .unOp op _ x => match unR op (ev x) with
    | some v => .val [] v m
    | none => .bad
  | .convert src dst x => match P.underlying src, P.underlying dst, ev x with
    | some _, some (.int k), .int _ n => .val [] (.int k (k.wrap n)) m
    | some (.slice e), some .string, y => match P.underlying e, dataOf m y with
      | some (.int .u8), some d => .val [d.IsBytes] (.str d.bytesOf) m
      | _, _ => .bad
    | _, _, _ => .bad
  | .makeMap _ none => .val [] (.mapp key) ((key, .map []) :: m)
  | .makeSlice t l c => match P.underlying t with
    | some (.slice e) => match P.info? e with
      | some i => match i.zero, ev l, ev c with
        | some z, .int _ n, .int _ n' => match (ofVal z).cells? with
          | some zs => match cellDs zs with
            | some zr => if zr.length = i.size ∧ 0 < zr.length then
                .all [0 ≤ n ∧ n' = n ∧ (i.bytes : Int) * n ≤ 281474976710656 ∧ n ≤ 9223372036854775807]
                  (fun hs => (.vec key, (key, .arr e (.slc (hs 0).hd zr.length (List.replicate n.toNat zr))) :: m))
              else .bad
            | none => .bad
          | none => .bad
        | _, _, _ => .bad
      | none => .bad
    | _ => .bad
  | .insert t x i v => match insR P m t (ev x) (ev i) (ev v) with
    | some m' => .val [] .undef m'
    | none => .bad
  | .lookup t x i ok => match lookR P m t (ev x) (ev i) ok with
    | some (l, d) => .val [] (pickA d l) m
    | none => .bad
  | .extract x i => match ev x with
    | .tup l => match l[i]? with
      | some v => .val [] v m
      | none => .bad
    | _ => .bad
  | .fieldAddr s x f => match fieldR P s (ev x) f with
    | some v => .val [] v m
    | none => .bad
  | .indexAddr t x i => match indexR P m t (ev x) (ev i) with
    | some (ps, v) => .val ps v m
    | none => .bad
  | .slice t x lo hi mx => match subR P m t (ev x) (lo.map ev) (hi.map ev) (mx.map ev) with
    | some (ps, v, m') => .val ps v m'
    | none => .bad
  | .makeFunc fn first captured => match fn with
    | .func f => .val [] (.fn f (first.toList.map ev) (captured.toList.map ev)) m
    | _ => .bad
  | .call c => match c.callee with
    | .builtin b => callB P ev m key b c.args.toList c.argTypes.toList
    | _ => .bad
  | _ => .bad
end

theorem array_map_list {α β : Type} (f : α → β) (a : Array α) : a.map f = (a.toList.map f).toArray := by
  rw [← Array.toList_map, Array.toArray_toList]

/-- What it means that the outcome is right. -/
def OpR.Right (r : OpR) (C : Ctx) (m : Mem) (w : World) (key : Nat) (E : Env) (H : HV) (run : Value → World → Prop) : Prop :=
  match r with
  | .val ps v m' => (∀ p, p ∈ ps → p) → ∃ w' E' H', run (v.den E') w' ∧ Agree key E E' ∧ HLe H H' ∧ Good C m' E' H' w' ∧ v.Ok H' ∧ Keeps m E H w key m' E' H' w'
  | .all ps f => (∀ p, p ∈ ps → p) → ∃ hs w' E' H', run ((f hs).1.den E') w' ∧ Agree key E E' ∧ HLe H H' ∧ Good C (f hs).2 E' H' w' ∧ (f hs).1.Ok H' ∧ Keeps m E H w key (f hs).2 E' H' w'
  | .bad => True

/-- The operation runs to this value (a store to none). -/
def RunsTo (P : Program) (a : Act) (o : Oper) (w : World) (v : Value) (w' : World) : Prop :=
  (execOp a.eval o).run P w = .ok (.value v) w' ∨ ((execOp a.eval o).run P w = .ok .skip w' ∧ v = Go.undef)

section
variable {P : Program} {C : Ctx} {m : Mem} {E : Env} {H : HV} {w : World} {a : Act} {o : Oper} {key : Nat} {ev : Operand → SV}

theorem right_val {v : SV} {ps : List Prop} {run : Value → World → Prop} (g : Good C m E H w) (h : (∀ p, p ∈ ps → p) → run (v.den E) w ∧ v.Ok H) :
    (OpR.val ps v m).Right C m w key E H run := fun hp => ⟨w, E, H, (h hp).1, Agree.refl _ _, HLe.refl _, g, (h hp).2, Keeps.refl _ _ _ _ _⟩

theorem keeps_alloc {t : TypeId} {cs : List SV} {ob : Obj} (hk : Mem.has key m = false) : Keeps m E H w key ((key, .cells t cs) :: m) (E.set key w.heap.size) H (w.alloc ob) := by
  refine ⟨by simp, fun j hj _ => heap_alloc_old w _ hj, fun _ _ _ h => .inl h, fun q o hq => ?_, fun q o hq hl => ?_, rfl, rfl, rfl⟩
  · rcases List.mem_cons.1 hq with hq | hq
    · cases hq; exact .inl rfl
    · exact .inr ⟨o, hq⟩
  · rcases List.mem_cons.1 hq with hq | hq
    · cases hq; left; simp [Env.set]
    · right; exact ⟨q, o, hq, hl, ((E.agree_set key w.heap.size).1 q (Mem.has_key hk _ hq).1).1⟩

theorem run_bool (b : Bool) : (asBool (.bool b)).run P w = .ok b w := rfl

theorem appR_spec (g : Good C m E H w) (hok : ∀ x, (ev x).Ok H) (hk : Mem.has key m = false) (s x : Operand) (t t' ty : TypeId) :
    (appR P ev m key s x t t').Right C m w key E H (fun v w' => (Builtin.append_ #[t, t'] ty #[(ev s).den E, (ev x).den E]).run P w = .ok v w') := by
  unfold appR
  split
  · rename_i htt
    subst htt
    split
    · rename_i e ht
      split
      · rename_i i hi
        split
        · rename_i z d2 hz hd2
          split
          · rename_i hzs
            obtain ⟨hv2, hr2, hro2, _⟩ := dataOf_spec g (hok x) hd2
            have hfit : d2.Fits i.size → Reads w ((ev x).den E) i.size d2.rows := by
              intro hf
              rcases hf with h0 | h0
              · rw [h0] at hr2 ⊢; exact ⟨by simp, hr2.2⟩
              · rw [← h0]; exact hr2
            split
            · rename_i hs
              intro hp
              obtain ⟨h1, h2, h3⟩ := hp _ (List.mem_singleton.2 rfl)
              obtain ⟨w', h, b, hrun, hg, k1, k2, k3, k4⟩ := g.append (P := P) t ty e i z ht hi hz hzs (.slice none 0 0) [] (World.ownsRow_nil w _ e i.size) (by simp) (by simp) (by simp [Value.ownBlock])
                ((ev x).den E) d2.rows (hfit h1) hro2 (by simpa [D.len] using h2) (by simpa [D.len, maxLen] using h3) key hk
              refine ⟨fun _ => .slc h 0 [], w', _, H, ?_, E.agree_setV _ _ _, HLe.refl _, by simpa [D.hd] using hg, by simp [SV.Ok], k1, fun j hj _ => k2 j hj (by simp [Value.ownBlock]), fun _ _ _ hh => .inl hh, fun q o hq => ?_, fun q o hq hl => ?_, k4⟩
              · rw [hs]
                simpa [SV.den, Env.setV] using hrun
              · rcases List.mem_cons.1 hq with hq | hq
                · cases hq; exact .inl rfl
                · exact .inr ⟨o, hq⟩
              · rcases List.mem_cons.1 hq with hq | hq
                · cases hq
                  rcases k3 (by simpa [OBlk.Lies, D.hd] using hl) with h4 | h4
                  · left; simpa [Env.setV] using h4
                  · simp [Value.ownBlock] at h4
                · right
                  exact ⟨q, o, hq, hl, ((E.agree_setV key b (h, ([] : List (List D)).length + d2.rows.length)).1 q (Mem.has_key hk _ hq).1).1⟩
            · rename_i k hs
              split
              · rename_i e' d hkk
                split
                · rename_i hee
                  subst hee
                  intro hp
                  obtain ⟨h0, h1, h2, h3⟩ := hp _ (List.mem_singleton.2 rfl)
                  obtain ⟨hd, sz, rows, rfl, hv, how, hl, hk2, ha⟩ := g.own k _ (Mem.get_mem hkk)
                  simp only [D.sz] at h0
                  subst h0
                  have hmem := Mem.get_mem hkk
                  have hval' : (SV.vec k).den E = (D.slc hd i.size rows).val := by simp only [SV.den, hv]; rfl
                  have hdel := fun j p => Mem.del_ne (j := j) (p := p) g.keys hmem
                  obtain ⟨w', h, b, hrun, hg, k1, k2, k3, k4⟩ := (g.sub (m.del_sub k)).append (P := P) t ty e' i z ht hi hz hzs _ rows how hl hk2
                    (by
                      intro b hb
                      cases hd with
                      | none => simp [D.val, hval, Value.ownBlock] at hb
                      | some q =>
                        obtain ⟨ad, c⟩ := q
                        obtain ⟨rfl, hH⟩ := ha ad c rfl
                        simp only [D.val, hval, Value.ownBlock, Option.some.injEq] at hb
                        subst hb
                        exact ⟨hH, fun j p hj hlies => g.apart (j, p) (k, _) (Mem.del_mem hj) hmem (hdel j p hj) hlies (by simp [OBlk.Lies, D.hd])⟩)
                    ((ev x).den E) d2.rows (hfit h1) hro2 (by simpa [D.len, D.rows] using h2) (by simpa [D.len, D.rows, maxLen] using h3) key (Mem.has_del hk)
                  have hob : ∀ q, (D.slc hd i.size rows).val.ownBlock = some q → hd ≠ none ∧ E.b k = q := by
                    intro q hq
                    cases hd with
                    | none => simp [D.val, hval, Value.ownBlock] at hq
                    | some y =>
                      obtain ⟨ad, c⟩ := y
                      obtain ⟨rfl, _⟩ := ha ad c rfl
                      simp only [D.val, hval, Value.ownBlock, Option.some.injEq] at hq
                      exact ⟨by simp, hq⟩
                  refine ⟨fun _ => .slc h 0 [], w', _, H, ?_, E.agree_setV _ _ _, HLe.refl _, by simpa [D.rows, D.hd] using hg, by simp [SV.Ok], k1, fun j hj hno => k2 j hj (fun hb => ?_), fun _ _ _ hh => .inl hh, fun q o hq => ?_, fun q o hq hl => ?_, k4⟩
                  · rw [hs, hval']
                    simpa [SV.den, Env.setV, D.rows] using hrun
                  · exact hno k _ hmem (by simpa [OBlk.Lies, D.hd] using (hob j hb).1) (hob j hb).2
                  · rcases List.mem_cons.1 hq with hq | hq
                    · cases hq; exact .inl rfl
                    · exact .inr ⟨o, Mem.del_mem hq⟩
                  · rcases List.mem_cons.1 hq with hq | hq
                    · cases hq
                      rcases k3 (by simpa [OBlk.Lies, D.hd] using hl) with h4 | h4
                      · left; simpa [Env.setV] using h4
                      · right
                        exact ⟨k, _, hmem, by simpa [OBlk.Lies, D.hd] using (hob b h4).1, by simp [Env.setV, (hob b h4).2]⟩
                    · right
                      exact ⟨q, o, Mem.del_mem hq, hl, ((E.agree_setV key b (h, rows.length + d2.rows.length)).1 q (Mem.has_key hk _ (Mem.del_mem hq)).1).1⟩
                · trivial
              · trivial
            · trivial
          · trivial
        · trivial
      · trivial
    · trivial
  · trivial

theorem opr_spec (g : Good C m E H w) (hev : ∀ x, a.eval x = (ev x).den E) (hok : ∀ x, (ev x).Ok H) (hk : Mem.has key m = false) (hk2 : ∀ x, (ev x).has key = false) :
    (opr P ev m key o.op).Right C m w key E H (RunsTo P a o w) := by
  obtain ⟨dst, op, type, pos, after, guard⟩ := o
  have evn : a.eval = fun x => (ev x).den E := funext hev
  have hasCells : ∀ x cs, (ev x).cells? = some cs → SV.hasL key cs = false := by
    intro x cs hc
    have := hk2 x
    cases hx : ev x <;> rw [hx] at hc this <;> simp [SV.cells?] at hc <;> subst hc <;> simp_all [SV.has, SV.hasL]
  cases op <;> simp only [opr] <;> try exact trivial
  case move x => exact right_val g fun _ => ⟨.inl (by simp [execOp, evn]), hok x⟩
  case assign x => exact right_val g fun _ => ⟨.inl (by simp [execOp, evn]), hok x⟩
  case pick c x y =>
    split
    · rename_i hc; exact right_val g fun _ => ⟨.inl (by simp [execOp, evn, hc, SV.den, run_bool]), hok x⟩
    · rename_i hc; exact right_val g fun _ => ⟨.inl (by simp [execOp, evn, hc, SV.den, run_bool]), hok y⟩
    · trivial
  case alloc t =>
    split
    · rename_i i hi
      split
      · rename_i z hz
        split
        · rename_i cs hcs
          intro _
          have hnk : SV.hasL key cs = false := by
            have h1 : ∀ v : Value, (ofVal1 v).has key = false := by intro v; unfold ofVal1; split <;> simp [SV.has]
            have h2 : (ofVal z).has key = false := by
              unfold ofVal
              split
              · simp only [SV.has, SV.hasL_iff]; intro x hx; obtain ⟨y, _, rfl⟩ := List.mem_map.1 hx; exact h1 y
              · exact h1 _
            cases hx : ofVal z <;> rw [hx] at hcs h2 <;> simp [SV.cells?] at hcs <;> subst hcs <;> simp_all [SV.has, SV.hasL]
          refine ⟨_, _, H, .inl ?_, E.agree_set _ _, HLe.refl _, g.alloc t cs hk hnk (SV.cells?_ok hcs (ok_ofVal H z)), by simp [SV.Ok], keeps_alloc hk⟩
          have hcl := SV.cells?_den E hcs
          rw [den_ofVal] at hcl
          simp [execOp, Instr.alloc, zeroValue, typeInfo, hi, hz, newVar, newRow, hcl, SV.den, Env.set]
        · trivial
      · trivial
    · trivial
  case box t x =>
    split
    · rename_i cs hcs
      intro _
      refine ⟨_, _, H, .inl ?_, E.agree_set _ _, HLe.refl _, g.alloc t cs hk (hasCells x cs hcs) (SV.cells?_ok hcs (hok x)), by simp [SV.Ok], keeps_alloc hk⟩
      simp [execOp, evn, Instr.box, newVar, newRow, SV.cells?_den E hcs, SV.den, Env.set]
    · trivial
  case build t ps =>
    split
    · rename_i v hv
      obtain ⟨h1, h2⟩ := buildR_spec (E := E) (w := w) (H := H) hv (fun p hp => by obtain ⟨y, _, rfl⟩ := List.mem_map.1 hp; exact hok _)
      refine right_val g fun _ => ⟨.inl ?_, h2⟩
      simp only [List.map_map] at h1
      have e : (ps.map fun x => (x.1, (ev x.2).den E)) = (ps.toList.map ((fun p : Nat × SV => (p.1, p.2.den E)) ∘ fun x => (x.1, ev x.2))).toArray := by
        rw [array_map_list]; rfl
      simp only [execOp, evn, Sem.run_bind]
      rw [show (ps.map fun x => match x with | (i, x) => (i, (ev x).den E)) = (ps.map fun x => (x.1, (ev x.2).den E)) from rfl, e, h1]
      rfl
    · trivial
  case buildSlice t len ps =>
    split
    · rename_i e ht
      split
      · rename_i i hi
        split
        · rename_i z rows hz hrows
          split
          · rename_i hc
            obtain ⟨hl, hb1, hb2⟩ := hc
            intro _
            obtain ⟨H', hle, g', nw⟩ := pubsR_spec (cellsOfL (ps.toList.map fun x => ev x.2)) g
            have hpm := pubsR_mem (cellsOfL (ps.toList.map fun x => ev x.2)) (m := m)
            obtain ⟨w', h, b, hrun, hg, hbel, hbb⟩ := g'.buildSlice (P := P) ht hi hz hrows (fun p hp => by obtain ⟨y, _, rfl⟩ := List.mem_map.1 hp; exact (hok _).mono hle)
              (by simpa [← hl] using hb1) (by simp [← hl, maxLen]; omega) key (has_pubsR _ hk)
            refine ⟨fun _ => .slc h 0 [], w', _, H', .inl ?_, E.agree_setV _ _ _, hle, hg, by simp [SV.Ok], hbel.size, fun j hj _ => hbel.block j hj, fun b x v hh => (nw b x v hh).imp id .inr, fun q o hq => ?_, fun q o hq hl => ?_, hbel.os, hbel.tape, hbel.output⟩
            rotate_left
            · rcases List.mem_cons.1 hq with hq | hq
              · cases hq; exact .inl rfl
              · exact .inr (hpm q o hq).1
            · rcases List.mem_cons.1 hq with hq | hq
              · cases hq
                left
                rw [show (E.setV key b (h, rows.length)).b key = b from by simp [Env.setV], hbb (by simpa [OBlk.Lies, D.hd] using hl)]
                exact Nat.le_refl _
              · right
                have hq2 := (hpm q o hq).2 hl
                exact ⟨q, o, hq2, hl, ((E.agree_setV key b (h, rows.length)).1 q (Mem.has_key hk _ hq2).1).1⟩
            have e : (ps.map fun x => (x.1, (ev x.2).den E)) = (((ps.toList.map fun x => (x.1, ev x.2))).map (fun p : Nat × SV => (p.1, p.2.den E))).toArray := by
              rw [array_map_list, List.map_map]; rfl
            have hlen : ((ps.toList.map fun x => (x.1, ev x.2))).length = len := by simp [hl]
            rw [hlen] at hrun
            simp only [execOp, evn, Sem.run_bind]
            rw [show (ps.map fun x => match x with | (i, x) => (i, (ev x).den E)) = (ps.map fun x => (x.1, (ev x.2).den E)) from rfl, e, hrun]
            simp [SV.den, Env.setV]
          · trivial
        · trivial
      · trivial
    · trivial
  case load t x =>
    split
    · rename_i ps v hv
      refine right_val g fun hp => ?_
      obtain ⟨h1, h2⟩ := loadR_spec g (hok x) hv hp
      exact ⟨.inl (by simp only [execOp, evn, Sem.run_bind, h1]; rfl), h2⟩
    · trivial
  case store t x y =>
    split
    · rename_i ps m' hv
      intro hp
      obtain ⟨w', h1, h2, h3⟩ := storeR_spec g (hok y) hv hp
      exact ⟨w', E, H, .inr ⟨by simp only [execOp, evn, Sem.run_bind, h1]; rfl, rfl⟩, Agree.refl _ _, HLe.refl _, h2, by simp [SV.Ok], h3 key⟩
    · trivial
  case nilCheck x =>
    have hx := hok x
    split
    all_goals first | trivial | (rename_i hc; rw [hc] at hx; exact right_val g fun _ => ⟨.inl (by simp [execOp, evn, hc, SV.den]), hx⟩)
  case binOp op t x y yt =>
    split
    · rename_i ps v hv
      refine right_val g fun hp => ?_
      obtain ⟨h1, h2⟩ := binR_spec g (hok x) hv hp x y
      exact ⟨.inl (by simp only [execOp, evn]; rw [Sem.run_bind, h1]; rfl), h2⟩
    · trivial
  case unOp op t x =>
    split
    · rename_i v hv
      obtain ⟨h1, h2⟩ := unR_spec (P := P) (E := E) (H := H) (w := w) hv
      exact right_val g fun _ => ⟨.inl (by simp only [execOp, evn, Sem.run_bind, h1]; rfl), h2⟩
    · trivial
  case convert src dst x =>
    split
    · rename_i ds k k' n hs hd hx
      refine right_val g fun _ => ⟨.inl ?_, by simp [SV.Ok]⟩
      simp only [execOp, evn, hx, SV.den, Go.convert, Sem.run_bind, run_underlying hs, run_underlying hd, Result.andThen_ok]
      cases ds <;> simp [Conv.intToInt]
    · rename_i e hs hd
      split
      · rename_i d he hda
        refine right_val g fun hp => ⟨.inl ?_, by simp [SV.Ok]⟩
        simp only [execOp, evn, Sem.run_bind, bytes_spec g (hok x) hda (hp _ (List.mem_singleton.2 rfl)) hs he hd]
        rfl
      · trivial
    · trivial
  case makeSlice t l c =>
    split
    · rename_i e ht
      split
      · rename_i i hi
        split
        · rename_i z k1 n k2 n' hz hel hec
          split
          · rename_i zs hzs
            split
            · rename_i zr hzr
              split
              · rename_i hcond
                obtain ⟨hsz, h0⟩ := hcond
                intro hp
                obtain ⟨p1, p2, p3, p4⟩ := hp _ (List.mem_singleton.2 rfl)
                subst p2
                obtain ⟨x1, x2, x3⟩ := cellDs_spec (H := H) hzr (SV.cells?_ok hzs (ok_ofVal H z))
                have hcl := SV.cells?_den E hzs
                rw [den_ofVal, x1 E] at hcl
                have hzl : zr.map D.val = z.cells.toList := by rw [hcl]
                have hrun := run_make (P := P) w t e i z ht hi hz k1 k2 n' n' p1 (Int.le_refl _) p3 p4
                rw [← hsz] at hrun
                have hmax : n'.toNat ≤ maxLen := by simp only [maxLen]; omega
                refine ⟨fun _ => .slc (some (⟨w.heap.size, 0, none⟩, n'.toNat)) 0 [], _, _, H, .inl ?_, E.agree_setV _ _ _, HLe.refl _, g.makeArr hk hzl h0 x2 n'.toNat hmax, by simp [SV.Ok], keeps_makeArr hk⟩
                simp only [execOp, evn, hel, hec, SV.den, Sem.run_bind, hrun]
                simp [Env.setV, hval]
              · trivial
            · trivial
          · trivial
        · trivial
      · trivial
    · trivial
  case makeMap t r =>
    cases r with
    | none => exact fun _ => ⟨_, _, H, .inl (by simp [execOp, evn, Instr.makeMap, SV.den, Env.set]), E.agree_set _ _, HLe.refl _, g.allocMap hk, by simp [SV.Ok], keeps_allocO hk⟩
    | some r => trivial
  case insert t x i v =>
    split
    · rename_i m' hv
      intro hp
      obtain ⟨w', h1, h2, h3⟩ := insR_spec (P := P) g (hok v) hv
      exact ⟨w', E, H, .inr ⟨by simp only [execOp, evn, Sem.run_bind, h1]; rfl, rfl⟩, Agree.refl _ _, HLe.refl _, h2, by simp [SV.Ok], h3 key⟩
    · trivial
  case lookup t x i ok =>
    split
    · rename_i l d hv
      obtain ⟨h1, h2⟩ := lookR_spec (P := P) g hv
      exact right_val g fun _ => ⟨.inl (by simp only [execOp, evn, Sem.run_bind, h1]; rfl), h2⟩
    · trivial
  case extract x i =>
    split
    · rename_i l hx
      split
      · rename_i v hv
        have := hok x
        rw [hx] at this
        refine right_val g fun _ => ⟨.inl ?_, (SV.OkL_iff l).1 this v (List.mem_of_getElem? hv)⟩
        simp [execOp, evn, hx, SV.den, Instr.extract, SV.denL_eq, hv]
      · trivial
    · trivial
  case fieldAddr s x f =>
    split
    · rename_i v hv
      obtain ⟨h1, h2⟩ := fieldR_spec (E := E) (w := w) hv (hok x)
      exact right_val g fun _ => ⟨.inl (by simp only [execOp, evn, Sem.run_bind, h1]; rfl), h2⟩
    · trivial
  case indexAddr t x i =>
    split
    · rename_i ps v hv
      refine right_val g fun hp => ?_
      obtain ⟨h1, h2⟩ := indexR_spec g (hok x) hv hp
      exact ⟨.inl (by simp only [execOp, evn, Sem.run_bind, h1]; rfl), h2⟩
    · trivial
  case slice t x lo hi mx =>
    split
    · rename_i ps v m' hv
      intro hp
      obtain ⟨H', h1, h2, h3, h4, h5, h6⟩ := subR_spec g (hok x) hv hp
      refine ⟨w, E, H', .inl ?_, Agree.refl _ _, h1, h2, h4, keeps_pub (by rw [h6]; exact pubR_mem) h5⟩
      simp only [Option.map_map] at h3
      simp only [execOp, evn, Sem.run_bind]
      rw [show (Option.map (fun x => (ev x).den E) lo) = Option.map (SV.den E ∘ ev) lo from rfl, show (Option.map (fun x => (ev x).den E) hi) = Option.map (SV.den E ∘ ev) hi from rfl,
        show (Option.map (fun x => (ev x).den E) mx) = Option.map (SV.den E ∘ ev) mx from rfl, h3]
      rfl
    · trivial
  case makeFunc fn first captured =>
    split
    · refine right_val g fun _ => ⟨.inl ?_, ?_⟩
      · simp only [execOp, evn, Instr.makeFunc, SV.den, SV.denL_eq, array_map_list, List.map_map]; rfl
      · simp only [SV.Ok, SV.OkL_iff]
        exact ⟨fun x hx => by obtain ⟨y, _, rfl⟩ := List.mem_map.1 hx; exact hok y, fun x hx => by obtain ⟨y, _, rfl⟩ := List.mem_map.1 hx; exact hok y⟩
    · trivial
  case call c =>
    obtain ⟨callee, args, argTypes⟩ := c
    split
    · rename_i b hb
      simp only at hb
      subst hb
      simp only [callB]
      split
      · rename_i x t ha ht
        split
        · rename_i e d hu hd
          obtain ⟨hv, _⟩ := dataOf_spec g (hok x) hd
          refine right_val g fun _ => ⟨.inl ?_, by simp [SV.Ok]⟩
          have ea : args = #[x] := by rw [← Array.toArray_toList (xs := args), ha]
          have et : argTypes = #[t] := by rw [← Array.toArray_toList (xs := argTypes), ht]
          subst ea; subst et
          simp only [execOp, evn, resolve, invoke, builtin, Sem.run_bind, Sem.run_pure, Result.andThen_ok, List.map_toArray, List.map_cons, List.map_nil]
          have : (Builtin.len_ #[t] type #[(ev x).den E]).run P w = .ok (.int .i64 d.len) w := by
            rw [hv]
            cases hh : d.hd with
            | none =>
              have h0 : d.len = 0 := by
                obtain ⟨hv2, hr, _⟩ := dataOf_spec g (hok x) hd
                rcases hr.2 with ⟨_, h0⟩ | ⟨a', c', h1, _⟩
                · simp [D.len, h0]
                · rw [hv2, hh] at h1; simp [hval] at h1
              simp [Builtin.len_, hval, run_underlying hu, goInt, h0]
            | some q => simp [Builtin.len_, hval, run_underlying hu, goInt]
          rw [this]
          rfl
        · trivial
      · rename_i s x t t' ha ht
        have h := appR_spec (P := P) g hok hk s x t t' type
        have ea : args = #[s, x] := by rw [← Array.toArray_toList (xs := args), ha]
        have et : argTypes = #[t, t'] := by rw [← Array.toArray_toList (xs := argTypes), ht]
        subst ea; subst et
        have hkey : ∀ v w', (Builtin.append_ #[t, t'] type #[(ev s).den E, (ev x).den E]).run P w = .ok v w' →
            RunsTo P a ⟨dst, .call ⟨.builtin .append, #[s, x], #[t, t']⟩, type, pos, after, guard⟩ w v w' := by
          intro v w' hr
          left
          simp only [execOp, evn, resolve, invoke, builtin, Sem.run_bind, Sem.run_pure, Result.andThen_ok, List.map_toArray, List.map_cons, List.map_nil, hr]
        revert h
        cases appR P ev m key s x t t' with
        | val ps v m' => exact fun (h : OpR.Right _ _ _ _ _ _ _ _) hp => by obtain ⟨w', E', H', h1, h2⟩ := h hp; exact ⟨w', E', H', hkey _ _ h1, h2⟩
        | all ps f => exact fun (h : OpR.Right _ _ _ _ _ _ _ _) hp => by obtain ⟨hs, w', E', H', h1, h2⟩ := h hp; exact ⟨hs, w', E', H', hkey _ _ h1, h2⟩
        | bad => exact fun _ => trivial
      · rename_i _ x y ha
        split
        · rename_i k a' k' b' hx hy
          refine right_val g fun _ => ⟨.inl ?_, by simp [SV.Ok]⟩
          have ea : args = #[x, y] := by rw [← Array.toArray_toList (xs := args), ha]
          subst ea
          simp only [execOp, evn, resolve, invoke, builtin, Sem.run_bind, Sem.run_pure, Result.andThen_ok, List.map_toArray, List.map_cons, List.map_nil, hx, hy, SV.den, run_max_int2]
        · trivial
      · rename_i _ x y ha
        split
        · rename_i k a' k' b' hx hy
          refine right_val g fun _ => ⟨.inl ?_, by simp [SV.Ok]⟩
          have ea : args = #[x, y] := by rw [← Array.toArray_toList (xs := args), ha]
          subst ea
          simp only [execOp, evn, resolve, invoke, builtin, Sem.run_bind, Sem.run_pure, Result.andThen_ok, List.map_toArray, List.map_cons, List.map_nil, hx, hy, SV.den, run_min_int2]
        · trivial
      · trivial
    · trivial
end
end Sx
end
section
/- Frames, stacks of frames, and what it means that a state runs to its end. -/
namespace Sx
open Go RowKit

/-- A frame of function f runs to its return. -/
def Go1 (P : Program) (f : FuncId) (todo : List Item) (a : Act) (w : World) (R : Value → World → Prop) : Prop :=
  ∀ (b : Frame) (cs : List Frame), b.fn = f → b.kind = .normal →
    ∃ v w' fr, R v w' ∧ Steps P (lone (b.at a todo) cs w) (lone fr cs w') ∧ fr.fn = f ∧ fr.leaving P w' (.returned v)

section
variable {P : Program} {f : FuncId} {a a' : Act} {w w' : World} {R : Value → World → Prop} {t t' : List Item}

theorem Go1.step (h : ∀ (b : Frame) cs, step P (lone (b.at a t) cs w) = .next (lone (b.at a' t') cs w')) (g : Go1 P f t' a' w' R) : Go1 P f t a w R := by
  intro b cs hb hk
  obtain ⟨v, w2, fr, h1, h2, h3⟩ := g b cs hb hk
  exact ⟨v, w2, fr, h1, .head (h b cs) h2, h3⟩

theorem Go1.ret {fn : Func} {v : Value} {c : List Item} (hf : P.funcs[f]? = some fn) (hd : a.defers = []) (hr : (results fn a.tmps).run P w = .ok v w) (hR : R v w) :
    Go1 P f (.code .ret :: c) a w R := by
  intro b cs hb hk
  exact ⟨v, w, _, hR, .one step_ret, hb, rfl, hd, hk, fn, by rw [← hf]; exact congrArg _ hb, hr⟩

theorem Go1.fin {fn : Func} {v : Value} (hf : P.funcs[f]? = some fn) (hd : a.defers = []) (hr : (results fn a.tmps).run P w = .ok v w) (hR : R v w) :
    Go1 P f [] a w R := by
  intro b cs hb hk
  exact ⟨v, w, _, hR, .one step_end, hb, rfl, hd, hk, fn, by rw [← hf]; exact congrArg _ hb, hr⟩

/-- The post of a region in the middle of a frame. -/
def Qk (P : Program) (f : FuncId) (todo : List Item) (R : Value → World → Prop) : Exit → Act → World → Prop :=
  fun e a w => e = .normal ∧ Go1 P f todo a w R

theorem Go1.code {c : Code} (h : c.wp P (Qk P f t R) a w) : Go1 P f (.code c :: t) a w R := by
  intro b cs hb hk
  obtain ⟨e, a', w', ⟨rfl, hq⟩, harr⟩ := h b t cs
  obtain ⟨v, w2, fr, h1, h2, h3⟩ := hq b cs hb hk
  exact ⟨v, w2, fr, h1, Steps.trans harr h2, h3⟩

theorem Go1.mono {R' : Value → World → Prop} (h : Go1 P f t a w R) (hr : ∀ v w, R v w → R' v w) : Go1 P f t a w R' := by
  intro b cs hb hk
  obtain ⟨v, w2, fr, h1, h2⟩ := h b cs hb hk
  exact ⟨v, w2, fr, hr _ _ h1, h2⟩

/-- A call of a function with a body, from what its frame does. -/
theorem calls_of_go1 {fn : Func} {c : Code} {args : Array Value} (hf : P.funcs[f]? = some fn) (hb : fn.body = some c)
    (h : Go1 P f [.code c] { tmps := args ++ Array.replicate (fn.ntmps - args.size) undef, defers := [] } w R) :
    Calls P f args w (fun e w' => ∃ v, e = .returned v ∧ R v w') := by
  intro cs
  let b : Frame := { (default : Frame) with fn := f, kind := .normal }
  have henter : Frame.enter P f args .normal = b.at { tmps := args ++ Array.replicate (fn.ntmps - args.size) undef, defers := [] } [.code c] := by
    simp [Frame.enter, Frame.at, hf, hb, b]
  obtain ⟨v, w', fr, hR, hs, h1, h2⟩ := h b cs rfl rfl
  rw [← henter] at hs
  exact ⟨.returned v, w', fr, ⟨v, rfl, hR⟩, hs, h1, h2⟩
end

structure CFrm where
  fn : FuncId
  ri : Option (Array Oper × List Nat)
  await : Option Tmp
  todo : List Item
  act : Act

def CFrm.run (P : Program) (c : CFrm) (w : World) (R : Value → World → Prop) : Prop :=
  match c.ri with
  | none => Go1 P c.fn c.todo c.act w R
  | some (ops, l) => wpOps P ops (Qk P c.fn c.todo R) l c.act w

/-- A stack of frames runs to the return of its last. -/
def StkRun (P : Program) : CFrm → List CFrm → World → (Value → World → Prop) → Prop
  | c, [], w, R => c.run P w R
  | c, g :: r, w, R => c.run P w fun v w' => StkRun P { g with act := g.act.put g.await v } r w' R

def restOf (P : Program) (r : List CFrm) (R : Value → World → Prop) : Value → World → Prop :=
  match r with
  | [] => R
  | g :: r => fun v w' => StkRun P { g with act := g.act.put g.await v } r w' R

theorem stkRun_eq (P : Program) (c : CFrm) (r : List CFrm) (w : World) (R : Value → World → Prop) : StkRun P c r w R = c.run P w (restOf P r R) := by
  cases r <;> rfl

/-- A symbolic frame. -/
structure SFrm where
  fn : FuncId
  ri : Option (Array Oper × List Nat)
  await : Option Tmp
  todo : List Item
  tmps : List SV

def SFrm.den (E : Env) (s : SFrm) : CFrm := ⟨s.fn, s.ri, s.await, s.todo, ⟨(SV.denL E s.tmps).toArray, []⟩⟩

structure Conf where
  top : SFrm
  rest : List SFrm
  mem : Mem

def Conf.Ok (H : HV) (c : Conf) : Prop := SV.OkL H c.top.tmps ∧ ∀ f, f ∈ c.rest → SV.OkL H f.tmps

/-- Whatever world is as the state says: it runs to its end, and there R holds. -/
def Runs (P : Program) (C : Ctx) (c : Conf) (R : Value → World → Prop) : Prop :=
  ∀ E H w, Good C c.mem E H w → c.Ok H → StkRun P (c.top.den E) (c.rest.map (SFrm.den E)) w R

inductive Tree where
  | leaf (c : Conf)
  | ret (v : SV)
  | br (b : Bool) (t f : Tree)
  | need (p : Prop) (t : Tree)
  | all (f : (Nat → Nat → D) → Tree)
  | stuck

def Tree.holds (P : Program) (C : Ctx) (R : Value → World → Prop) : Tree → Prop
  | .leaf c => Runs P C c R
  | .ret v => ∀ E H w, Good C [] E H w → v.Ok H → R (v.den E) w
  | .br b t f => (b = true → t.holds P C R) ∧ (b = false → f.holds P C R)
  | .need p t => p ∧ t.holds P C R
  | .all f => ∀ hs, (f hs).holds P C R
  | .stuck => False

def needs : List Prop → Tree → Tree
  | [], t => t
  | p :: r, t => .need p (needs r t)

theorem needs_holds {P : Program} {C : Ctx} {R : Value → World → Prop} : ∀ {ps : List Prop} {t : Tree}, (needs ps t).holds P C R → (∀ p, p ∈ ps → p) ∧ t.holds P C R
  | [], t, h => ⟨by simp, h⟩
  | p :: r, t, h => by
    obtain ⟨h1, h2⟩ := h
    obtain ⟨h3, h4⟩ := needs_holds h2
    refine ⟨fun q hq => ?_, h4⟩
    rcases List.mem_cons.1 hq with rfl | hq
    · exact h1
    · exact h3 q hq

/-- What a contract gives at a call: its arguments, a fresh key, the memory. -/
abbrev Ctr := List SV → Nat → Mem → OpR

def CallRight (P : Program) (f : FuncId) (r : OpR) (C : Ctx) (m : Mem) (key : Nat) (E : Env) (H : HV) (w : World) (args : List SV) : Prop :=
  match r with
  | .val ps v m' => (∀ p, p ∈ ps → p) → Calls P f (SV.denL E args).toArray w fun e w' =>
      ∃ E' H', e = .returned (v.den E') ∧ Agree key E E' ∧ HLe H H' ∧ Good C m' E' H' w' ∧ v.Ok H' ∧ Keeps m E H w key m' E' H' w'
  | .all ps g => (∀ p, p ∈ ps → p) → Calls P f (SV.denL E args).toArray w fun e w' =>
      ∃ hs E' H', e = .returned ((g hs).1.den E') ∧ Agree key E E' ∧ HLe H H' ∧ Good C (g hs).2 E' H' w' ∧ (g hs).1.Ok H' ∧ Keeps m E H w key (g hs).2 E' H' w'
  | .bad => True

/-- Nothing of one's own that could be published. -/
def roM : Mem → Bool
  | [] => true
  | (_, .cells ..) :: r => roM r
  | (_, .map _) :: r => roM r
  | _ => false

/-- The same keys, in the same order. -/
def keysEq : Mem → Mem → Bool
  | [], [] => true
  | (a, _) :: r, (b, _) :: s => a == b && keysEq r s
  | _, _ => false

/-- A contract that leaves what cannot be published as it was, or adds something. -/
def CtrRO (c : Ctr) : Prop := ∀ args key m, roM m = true → match c args key m with
  | .val _ _ m' => keysEq m' m = true → m' = m
  | .all _ g => ∀ hs, keysEq (g hs).2 m = true → (g hs).2 = m
  | .bad => True

def CtrOk (P : Program) (f : FuncId) (c : Ctr) : Prop :=
  (∃ fn, P.funcs[f]? = some fn ∧ fn.body.isSome = true ∧ (fn.name == "runtime.NumGoroutine") = false) ∧
  (∀ C E H w args key m, Good C m E H w → SV.OkL H args → Mem.has key m = false → SV.hasL key args = false → CallRight P f (c args key m) C m key E H w args) ∧
  CtrRO c

abbrev Ctrs := List (FuncId × Ctr)

def Ctrs.find (cs : Ctrs) (f : FuncId) : Option Ctr :=
  match cs with
  | [] => none
  | (g, c) :: r => if g == f then some c else Ctrs.find r f

def Ctrs.Ok (P : Program) (cs : Ctrs) : Prop := ∀ x, x ∈ cs → CtrOk P x.1 x.2

theorem Ctrs.find_mem {cs : Ctrs} {f : FuncId} {c : Ctr} (h : cs.find f = some c) : (f, c) ∈ cs := by
  induction cs with
  | nil => cases h
  | cons x r ih =>
    obtain ⟨g, d⟩ := x
    simp only [Ctrs.find] at h
    split at h
    · rename_i hg; simp at hg h; subst hg; subst h; simp
    · exact List.mem_cons_of_mem _ (ih h)

def Conf.fresh (key : Nat) (c : Conf) : Bool :=
  !Mem.has key c.mem && !SV.hasL key c.top.tmps && c.rest.all fun f => !SV.hasL key f.tmps

/-- Does the guard of an operation let it run? -/
inductive GR where
  | yes | no | fork (t : Nat) (b : Bool) | bad

def guardR (ops : Array Oper) (o : Oper) (tmps : List SV) : GR :=
  match o.guard with
  | none => .yes
  | some (j, want) =>
    match (ops[j]?).bind (·.dst) with
    | none => .bad
    | some t => match tmps[t]? with
      | some (.lb b) => if b == want then .yes else .no
      | some (.bool b) => .fork t b
      | some .undef => .no
      | _ => .bad

def putS (tmps : List SV) (dst : Option Tmp) (v : SV) : List SV :=
  match dst with
  | some d => tmps.set d v
  | none => tmps

def dstKey (depth : Nat) (dst : Option Tmp) : Nat :=
  match dst with
  | some d => 1000 * depth + d
  | none => 1000 * depth + 999

/-- The results of a function. -/
def resS (P : Program) (m : Mem) (tmps : List SV) : List ResultVar → Option (List SV)
  | [] => some []
  | .tmp t :: r => match resS P m tmps r with
    | some l => some (tmps.getD t .undef :: l)
    | none => none
  | .cell a t :: r => match tmps.getD a .undef with
    | .ptr k off => match loadR P m t (.ptr k off), resS P m tmps r with
      | some ([], v), some l => some (v :: l)
      | _, _ => none
    | _ => none

def one? : List SV → SV
  | [v] => v
  | l => .tup l

mutual
/-- A value without rows of one's own: they are published. -/
def closeV (m : Mem) : SV → SV
  | .vec k => match m.get k with
    | some (.pub d) => .dat d
    | _ => .vec k
  | .agg l => .agg (closeL m l)
  | .tup l => .tup (closeL m l)
  | v => v
def closeL (m : Mem) : List SV → List SV
  | [] => []
  | x :: r => closeV m x :: closeL m r
end

mutual
def leaves : SV → List SV
  | .agg l => leavesL l
  | .tup l => leavesL l
  | v => [v]
def leavesL : List SV → List SV
  | [] => []
  | x :: r => leaves x ++ leavesL r
end

/-- What is called. -/
def calleeOf (ev : Operand → SV) : Callee → Option (FuncId × List SV × List SV)
  | .value x => match ev x with
    | .fn f a c => some (f, a, c)
    | _ => none
  | _ => none

mutual
/-- Does a value name a forgotten one from id n on? -/
def SV.jk (n : Nat) : SV → Bool
  | .junk i => decide (n ≤ i)
  | .agg l => SV.jkL n l
  | .tup l => SV.jkL n l
  | .fn _ a c => SV.jkL n a || SV.jkL n c
  | _ => false
def SV.jkL (n : Nat) : List SV → Bool
  | [] => false
  | x :: r => SV.jk n x || SV.jkL n r
end

def OBlk.jk (n : Nat) : OBlk → Bool
  | .cells _ cs => SV.jkL n cs
  | .map es => es.any fun e => e.1.jk n || e.2.jk n
  | _ => false

/-- The slots that are kept; the others are forgotten. -/
def maskT (n : Nat) (live : List Nat) : Nat → List SV → List SV
  | _, [] => []
  | t, v :: r => (if live.contains t then v else .junk (n + t)) :: maskT n live (t + 1) r

/-- The kept slots alone name no forgotten value. -/
def keptOk (n : Nat) (live : List Nat) : Nat → List SV → Bool
  | _, [] => true
  | t, v :: r => (if live.contains t then !v.jk n else true) && keptOk n live (t + 1) r

/-- The blocks that are still reached. -/
def reachK (m : Mem) (tops : List SV) (rest : List SFrm) : Nat → List Nat → List Nat
  | 0, l => l
  | n + 1, l =>
    reachK m tops rest n ((m.filter fun e => SV.hasL e.1 tops || rest.any (fun f => SV.hasL e.1 f.tmps) || m.any fun x => l.contains x.1 && x.2.has e.1).map (·.1))

def forgetC (live : List Nat) (c : Conf) : Option Conf :=
  let n := 1000 * c.rest.length
  let tops := maskT n live 0 c.top.tmps
  let keys := reachK c.mem tops c.rest (c.mem.length + 1) []
  let m := c.mem.filter fun e => keys.contains e.1
  if keptOk n live 0 c.top.tmps && m.all (fun e => !e.2.jk n) && c.rest.all (fun f => !SV.jkL n f.tmps) then
    some { c with top := { c.top with tmps := tops }, mem := m }
  else none

def addN (x : Nat) (l : List Nat) : List Nat := if l.contains x then l else x :: l
def addNs (xs l : List Nat) : List Nat := xs.foldr addN l

def usesOp (ops : Array Oper) (o : Oper) : List Nat :=
  (o.op.operands.toList.filterMap fun | .tmp t => some t | _ => none) ++
  (match o.guard with
   | some (g, _) => ((ops[g]?).bind (·.dst)).toList
   | none => [])

def liveOps (ops : Array Oper) : List Oper → List Nat → List Nat
  | [], out => out
  | o :: r, out =>
    let l := liveOps ops r out
    addNs (usesOp ops o) (match o.dst with
      | some d => l.filter (· != d)
      | none => l)

def exitN (id : Nat) : List (Nat × List Nat) → List Nat
  | [] => []
  | (i, l) :: r => if i == id then l else exitN id r

def liveC : Code → List Nat → List (Nat × List Nat) → List Nat → List Nat
  | .seq a b, out, ex, rt => liveC a (liveC b out ex rt) ex rt
  | .cond x a b, out, ex, rt => addNs (match x with | .tmp t => [t] | _ => []) (addNs (liveC a out ex rt) (liveC b out ex rt))
  | .block id b, out, ex, rt => liveC b out ((id, out) :: ex) rt
  | .loop b, _, ex, rt => liveC b (liveC b (liveC b [] ex rt) ex rt) ex rt
  | .exit id, _, ex, _ => exitN id ex
  | .ret, _, _, rt => rt
  | .scope b, out, ex, rt => liveC b out ex rt
  | .region _ ops _, out, _, _ => liveOps ops ops.toList out
  | _, out, _, _ => out

def liveI (rt : List Nat) : List Item → List Nat × List (Nat × List Nat)
  | [] => (rt, [])
  | .code c :: k => let r := liveI rt k; (liveC c r.1 r.2 rt, r.2)
  | .inBlock id :: k => let r := liveI rt k; (r.1, (id, r.1) :: r.2)
  | .inLoop b :: k => let r := liveI rt k; (liveC (.loop b) r.1 r.2 rt, r.2)
  | _ :: k => liveI rt k

def retN (P : Program) (f : FuncId) : List Nat :=
  match P.funcs[f]? with
  | some fn => fn.results.toList.map fun | .tmp t => t | .cell a _ => a
  | none => []

/-- At the head of a loop: what nobody reads any more is forgotten. -/
def fgt (P : Program) (c : Conf) : Conf :=
  match forgetC (liveI (retN P c.top.fn) c.top.todo).1 c with
  | some c' => c'
  | none => c

/-- A return. -/
def retC (P : Program) (ih : Conf → Tree) (c : Conf) : Tree :=
  match P.funcs[c.top.fn]? with
  | none => .stuck
  | some fn =>
    match resS P c.mem c.top.tmps fn.results.toList with
    | none => .stuck
    | some l =>
      match c.rest with
      | [] => .ret (closeV (pubsR (leaves (one? l)) c.mem) (one? l))
      | g :: r => ih { top := { g with tmps := putS g.tmps g.await (one? l), await := none }, rest := r, mem := c.mem }

/-- Operations that read alone, or compute. -/
def quickOp : Op → Bool
  | .move _ => true
  | .assign _ => true
  | .pick .. => true
  | .build .. => true
  | .load .. => true
  | .nilCheck _ => true
  | .binOp .. => true
  | .unOp .. => true
  | .convert .. => true
  | .extract .. => true
  | .fieldAddr .. => true
  | .indexAddr .. => true
  | .makeFunc .. => true
  | .call c => match c.callee with
    | .builtin .len => true
    | _ => false
  | _ => false

def oprQ (P : Program) (tmps : List SV) (m : Mem) (op : Op) : Option (List Prop × SV) :=
  if quickOp op then
    match opr P (evS tmps) m 0 op with
    | .val ps v _ => some (ps, v)
    | _ => none
  else none

def outOf (r : OpR) (h : Nat → D) : Option (List Prop × SV × Mem) :=
  match r with
  | .val ps v m => some (ps, v, m)
  | .all ps f => some (ps, (f h).1, (f h).2)
  | .bad => none

section
variable {β : Type _}
/-- A number is computed, and handed on. -/
def natF (n : Nat) (k : Nat → β) : β :=
  match n with
  | 0 => k 0
  | m + 1 => k (m + 1)
theorem natF_eq (n : Nat) (k : Nat → β) : natF n k = k n := by cases n <;> rfl

/-- The head of a value is computed, and the value handed on. -/
def SV.nz0 (x : SV) (k : SV → β) : β :=
  match x with
  | .int a b => k (.int a b)
  | .bool a => k (.bool a)
  | .lb a => k (.lb a)
  | .str a => k (.str a)
  | .nils => k .nils
  | .dat a => k (.dat a)
  | .vec a => natF a fun a => k (.vec a)
  | .ptr a b => natF a fun a => natF b fun b => k (.ptr a b)
  | .elt a b c => k (.elt a b c)
  | .velt a b c d => natF a fun a => k (.velt a b c d)
  | .nilp => k .nilp
  | .agg l => k (.agg l)
  | .tup l => k (.tup l)
  | .fn f a b => k (.fn f a b)
  | .nilf => k .nilf
  | .mapp a => natF a fun a => k (.mapp a)
  | .undef => k .undef
  | .junk a => natF a fun a => k (.junk a)
  | .raw a => k (.raw a)
theorem SV.nz0_eq (x : SV) (k : SV → β) : x.nz0 k = k x := by cases x <;> simp only [SV.nz0, natF_eq]

noncomputable def nzL (f : SV → (SV → β) → β) (l : List SV) (k : List SV → β) : β :=
  List.rec (motive := fun _ => (List SV → β) → β) (fun k => k []) (fun x _ ih k => f x fun x' => ih fun r' => k (x' :: r')) l k
theorem nzL_eq {f : SV → (SV → β) → β} (hf : ∀ x k, f x k = k x) : ∀ (l : List SV) (k : List SV → β), nzL f l k = k l
  | [], _ => rfl
  | x :: r, k => by
    show f x (fun x' => nzL f r fun r' => k (x' :: r')) = _
    rw [hf, nzL_eq hf r]

noncomputable def SV.nz1 (x : SV) (k : SV → β) : β :=
  x.nz0 fun x => match x with
  | .agg l => nzL SV.nz0 l fun l => k (.agg l)
  | .tup l => nzL SV.nz0 l fun l => k (.tup l)
  | x => k x
theorem SV.nz1_eq (x : SV) (k : SV → β) : x.nz1 k = k x := by
  unfold SV.nz1
  rw [SV.nz0_eq]
  split
  · rw [nzL_eq SV.nz0_eq]
  · rw [nzL_eq SV.nz0_eq]
  · rfl

noncomputable def SV.nz2 (x : SV) (k : SV → β) : β :=
  x.nz0 fun x => match x with
  | .agg l => nzL SV.nz0 l fun l => k (.agg l)
  | .tup l => nzL SV.nz1 l fun l => k (.tup l)
  | .fn f a b => nzL SV.nz1 a fun a => nzL SV.nz1 b fun b => k (.fn f a b)
  | x => k x
theorem SV.nz2_eq (x : SV) (k : SV → β) : x.nz2 k = k x := by
  unfold SV.nz2
  rw [SV.nz0_eq]
  split
  · rw [nzL_eq SV.nz0_eq]
  · rw [nzL_eq SV.nz1_eq]
  · rw [nzL_eq SV.nz1_eq, nzL_eq SV.nz1_eq]
  · rfl

noncomputable def nzM (l : Mem) (k : Mem → β) : β :=
  List.rec (motive := fun _ => (Mem → β) → β) (fun k => k [])
    (fun x _ ih k => match x with
      | (j, o) => match o with
        | .cells t cs => natF j fun j => nzL SV.nz1 cs fun cs => ih fun r' => k ((j, .cells t cs) :: r')
        | .arr e d => natF j fun j => ih fun r' => k ((j, .arr e d) :: r')
        | .pub d => natF j fun j => ih fun r' => k ((j, .pub d) :: r')
        | .map es => natF j fun j => ih fun r' => k ((j, .map es) :: r')) l k
theorem nzM_eq : ∀ (l : Mem) (k : Mem → β), nzM l k = k l
  | [], _ => rfl
  | (j, o) :: r, k => by
    cases o with
    | cells t cs =>
      show natF j (fun j => nzL SV.nz1 cs (fun cs => nzM r fun r' => k ((j, .cells t cs) :: r'))) = _
      rw [natF_eq, nzL_eq SV.nz1_eq, nzM_eq r]
    | arr e d =>
      show natF j (fun j => nzM r fun r' => k ((j, .arr e d) :: r')) = _
      rw [natF_eq, nzM_eq r]
    | pub d =>
      show natF j (fun j => nzM r fun r' => k ((j, .pub d) :: r')) = _
      rw [natF_eq, nzM_eq r]
    | map es =>
      show natF j (fun j => nzM r fun r' => k ((j, .map es) :: r')) = _
      rw [natF_eq, nzM_eq r]

/-- Between regions the state is computed. -/
noncomputable def nz (c : Conf) (k : Conf → β) : β :=
  match c.top.ri with
  | none => nzL SV.nz2 c.top.tmps fun tmps => nzM c.mem fun mem => k ⟨⟨c.top.fn, none, c.top.await, c.top.todo, tmps⟩, c.rest, mem⟩
  | some _ => k c
theorem nz_eq (c : Conf) (k : Conf → β) : nz c k = k c := by
  obtain ⟨⟨fn, ri, aw, todo, tmps⟩, rest, mem⟩ := c
  unfold nz
  split
  · rename_i h
    simp only at h
    subst h
    rw [nzL_eq SV.nz2_eq, nzM_eq]
  · rfl

/-- Slots and memory are computed. -/
noncomputable def nzS (tmps : List SV) (m : Mem) (k : List SV → Mem → β) : β := nzL SV.nz2 tmps fun t => nzM m fun m => k t m
theorem nzS_eq (tmps : List SV) (m : Mem) (k : List SV → Mem → β) : nzS tmps m k = k tmps m := by
  unfold nzS
  rw [nzL_eq SV.nz2_eq, nzM_eq]
end

end Sx
end
section
/- The symbolic machine is right: what its tree says holds of the model's machine. -/
namespace Sx
open Go RowKit

theorem denL_set (E : Env) (l : List SV) (d : Nat) (v : SV) : SV.denL E (l.set d v) = (SV.denL E l).set d (v.den E) := by
  simp [SV.denL_eq, List.map_set]

theorem put_den (E : Env) (tmps : List SV) (dst : Option Tmp) (v : SV) :
    (⟨(SV.denL E tmps).toArray, []⟩ : Act).put dst (v.den E) = ⟨(SV.denL E (putS tmps dst v)).toArray, []⟩ := by
  cases dst with
  | none => rfl
  | some d => simp [Act.put, putS, denL_set]

theorem okL_putS {H : HV} {tmps : List SV} {dst : Option Tmp} {v : SV} (h : SV.OkL H tmps) (hv : v.Ok H) : SV.OkL H (putS tmps dst v) := by
  cases dst with
  | none => exact h
  | some d =>
    simp only [putS]
    rw [SV.OkL_iff] at h ⊢
    intro x hx
    rcases List.mem_or_eq_of_mem_set hx with hx | rfl
    · exact h x hx
    · exact hv

theorem okL_append {H : HV} {a b : List SV} (ha : SV.OkL H a) (hb : SV.OkL H b) : SV.OkL H (a ++ b) := by
  rw [SV.OkL_iff] at *
  intro x hx
  rcases List.mem_append.1 hx with h | h
  · exact ha x h
  · exact hb x h

theorem hasL_append {k : Nat} {a b : List SV} (ha : SV.hasL k a = false) (hb : SV.hasL k b = false) : SV.hasL k (a ++ b) = false := by
  rw [SV.hasL_iff] at *
  intro x hx
  rcases List.mem_append.1 hx with h | h
  · exact ha x h
  · exact hb x h

section
variable {P : Program}

theorem guardR_spec {E : Env} {ops : Array Oper} {o : Oper} {tmps : List SV} :
    (guardR ops o tmps = .yes → Region.wanted o (yielded ops (SV.denL E tmps).toArray) = true) ∧
    (guardR ops o tmps = .no → Region.wanted o (yielded ops (SV.denL E tmps).toArray) = false) ∧
    (∀ t b, guardR ops o tmps = .fork t b → tmps[t]? = some (.bool b)) := by
  unfold guardR Region.wanted
  cases hg : o.guard with
  | none => simp
  | some x =>
    obtain ⟨j, want⟩ := x
    simp only
    cases hd : (ops[j]?).bind (·.dst) with
    | none => simp
    | some t =>
      simp only [yielded, hd, Option.bind_some]
      have e : ((SV.denL E tmps).toArray)[t]? = (tmps[t]?).map (SV.den E) := by simp [SV.denL_eq]
      rw [e]
      cases ht : tmps[t]? with
      | none => simp
      | some v =>
        cases v <;> simp [SV.den, Go.undef]
        case lb b => cases b <;> cases want <;> simp
        case bool b => exact ht

theorem frm_op {f : FuncId} {ops : Array Oper} {i : Nat} {l : List Nat} {aw : Option Tmp} {k : List Item} {a : Act} {w w' : World} {o : Oper} {v : Value} {R : Value → World → Prop}
    (ho : ops[i]? = some o) (hw : Region.wanted o (yielded ops a.tmps) = true) (hr : RunsTo P a o w v w')
    (h : CFrm.run P ⟨f, some (ops, l), aw, k, a.put o.dst v⟩ w' R) : CFrm.run P ⟨f, some (ops, i :: l), aw, k, a⟩ w R := by
  simp only [CFrm.run] at h ⊢
  rw [wpOps_cons]
  unfold wpOp
  simp only [ho, hw, if_true]
  left
  unfold Oper.wp
  rcases hr with hr | ⟨hr, rfl⟩
  · rw [hr]; exact h
  · rw [hr]; exact h

theorem frm_no {f : FuncId} {ops : Array Oper} {i : Nat} {l : List Nat} {aw : Option Tmp} {k : List Item} {a : Act} {w : World} {o : Oper} {R : Value → World → Prop}
    (ho : ops[i]? = some o) (hw : Region.wanted o (yielded ops a.tmps) = false)
    (h : CFrm.run P ⟨f, some (ops, l), aw, k, a.put o.dst Go.undef⟩ w R) : CFrm.run P ⟨f, some (ops, i :: l), aw, k, a⟩ w R := by
  simp only [CFrm.run] at h ⊢
  rw [wpOps_cons]
  unfold wpOp
  simp only [ho, hw]
  exact h

/-- A call of a function value. -/
theorem run_call {a : Act} {cl : Call} {E : Env} {tmps : List SV} (hev : ∀ x, a.eval x = (evS tmps x).den E) {f : FuncId} {first captured : List SV}
    (hc : calleeOf (evS tmps) cl.callee = some (f, first, captured)) {fn : Func} (hf : P.funcs[f]? = some fn) (hb : fn.body.isSome = true) (hn : (fn.name == "runtime.NumGoroutine") = false)
    {o : Oper} (ho : o.op = .call cl) (w : World) :
    (execOp a.eval o).run P w = .ok (.enter f (SV.denL E (first ++ cl.args.toList.map (evS tmps) ++ captured)).toArray) w := by
  obtain ⟨callee, args, tys⟩ := cl
  cases callee with
  | invoke r n => simp [calleeOf] at hc
  | builtin b => simp [calleeOf] at hc
  | value x =>
    simp only [calleeOf] at hc
    split at hc
    · rename_i f' a' c' hx
      simp only [Option.some.injEq, Prod.mk.injEq] at hc
      obtain ⟨rfl, rfl, rfl⟩ := hc
      have evn : a.eval = fun x => (evS tmps x).den E := funext hev
      have hb' : fn.body.isNone = false := by cases h : fn.body <;> simp_all
      unfold execOp
      simp only [ho, resolve, evn, hx, SV.den, Deferred.ofValue, Sem.run_bind, Sem.run_pure, Result.andThen_ok, invoke, callFunc, run_program, hf, hn, hb', Bool.false_eq_true, if_false]
      congr 2
      simp [SV.denL_eq, array_map_list, Function.comp_def]
    · cases hc

theorem frm_call {f0 : FuncId} {ops : Array Oper} {i : Nat} {l : List Nat} {aw : Option Tmp} {k : List Item} {a : Act} {w : World} {o : Oper} {R : Value → World → Prop}
    (ho : ops[i]? = some o) (hw : Region.wanted o (yielded ops a.tmps) = true) {f : FuncId} {args : Array Value} (hr : (execOp a.eval o).run P w = .ok (.enter f args) w)
    {T : Value → World → Prop} (hc : Calls P f args w fun e w' => ∃ v, e = .returned v ∧ T v w')
    (h : ∀ v w', T v w' → CFrm.run P ⟨f0, some (ops, l), aw, k, a.put o.dst v⟩ w' R) : CFrm.run P ⟨f0, some (ops, i :: l), aw, k, a⟩ w R := by
  simp only [CFrm.run] at h ⊢
  rw [wpOps_cons]
  unfold wpOp
  simp only [ho, hw, if_true]
  left
  unfold Oper.wp
  rw [hr]
  refine Calls.mono hc fun e w' he => ?_
  obtain ⟨v, rfl, hT⟩ := he
  exact h v w' hT

theorem CFrm.run_mono {c : CFrm} {w : World} {R R' : Value → World → Prop} (h : c.run P w R) (hr : ∀ v w, R v w → R' v w) : c.run P w R' := by
  obtain ⟨f, ri, aw, k, a⟩ := c
  cases ri with
  | none => exact Go1.mono h hr
  | some x =>
    obtain ⟨ops, l⟩ := x
    have hq : ∀ e a w, Qk P f k R e a w → Qk P f k R' e a w := fun e a w hh => ⟨hh.1, Go1.mono hh.2 hr⟩
    simp only [CFrm.run] at h ⊢
    revert h
    induction l generalizing a w with
    | nil => exact fun h => hq _ _ _ h
    | cons i l ih =>
      intro h
      rw [wpOps_cons] at h ⊢
      unfold wpOp at h ⊢
      split
      · rename_i hn; simp only [hn] at h; exact ih _ h
      · rename_i o ho
        simp only [ho] at h
        split
        · rename_i hw
          simp only [hw, if_true] at h
          rcases h with h | ⟨_, a', w', hq', _⟩
          · left
            unfold Oper.wp at h ⊢
            generalize (execOp a.eval o).run P w = r at h ⊢
            cases r with
            | ok n w' =>
              cases n <;> simp only [Oper.upon] at h ⊢
              case value v => exact ih _ h
              case skip => exact ih _ h
              case defer d => exact ih _ h
              case enter f args =>
                refine Calls.mono h fun e w'' he => ?_
                cases e with
                | returned v => exact ih _ he
                | panicked ch => exact hq _ _ _ he
                | outgrown => obtain ⟨a', w3, hq'⟩ := he; exact ⟨a', w3, hq _ _ _ hq'⟩
              case row row args => exact Rows.mono h fun v w'' he => ih _ he
            | halt x w' =>
              cases x <;> simp only [Oper.upon] at h ⊢
              exact hq _ _ _ h
          · cases hq'
        · rename_i hw
          simp only [hw] at h
          exact ih _ h

/-- One result of a function, as the model reads it. -/
def rsem (tmps : Array Value) : ResultVar → Sem Value
  | .tmp t => pure (tmps.getD t Go.undef)
  | .cell a t => do loadVar t (← asAddr (tmps.getD a Go.undef))

theorem results_eq (fn : Func) (tmps : Array Value) : results fn tmps = (do let vs ← fn.results.mapM (rsem tmps); pure (if h : vs.size = 1 then vs[0] else .tuple vs)) := rfl

theorem results_spec {C : Ctx} {m : Mem} {E : Env} {H : HV} {w : World} (g : Good C m E H w) {tmps : List SV} (hok : SV.OkL H tmps) : ∀ {rs : List ResultVar} {l : List SV},
    resS P m tmps rs = some l → (rs.mapM (rsem (SV.denL E tmps).toArray)).run P w = .ok (SV.denL E l) w ∧ SV.OkL H l
  | [], l, h => by simp only [resS, Option.some.injEq] at h; subst h; simp [SV.denL, SV.OkL]
  | .tmp t :: r, l, h => by
    simp only [resS] at h
    split at h
    · rename_i l' hl
      cases h
      obtain ⟨i1, i2⟩ := results_spec g hok hl
      have e := den_evS E tmps [] (.tmp t)
      simp only [Act.eval, evS] at e
      refine ⟨?_, ⟨ok_evS hok (.tmp t), i2⟩⟩
      have h0 : (rsem (SV.denL E tmps).toArray (.tmp t)).run P w = .ok ((tmps.getD t .undef).den E) w := by simp only [rsem, e, Sem.run_pure]
      simp only [List.mapM_cons, Sem.run_bind, Sem.run_pure, Result.andThen_ok, h0, i1, SV.denL]
    · cases h
  | .cell a t :: r, l, h => by
    simp only [resS] at h
    split at h
    · rename_i k off hp
      split at h
      · rename_i v l' hld hl
        cases h
        obtain ⟨i1, i2⟩ := results_spec g hok hl
        have e := den_evS E tmps [] (.tmp a)
        simp only [Act.eval, evS, hp] at e
        obtain ⟨h1, h2⟩ := loadR_spec (P := P) g (a := .ptr k off) (by simp [SV.Ok]) hld (by simp)
        refine ⟨?_, ⟨h2, i2⟩⟩
        simp only [Instr.loadAt, Instr.sureAddr, SV.den, Sem.run_bind, Sem.run_pure, Result.andThen_ok] at h1
        have h0 : (rsem (SV.denL E tmps).toArray (.cell a t)).run P w = .ok (v.den E) w := by
          simp only [rsem, e, SV.den, asAddr, Sem.run_bind, Sem.run_pure, Result.andThen_ok, h1]
        simp only [List.mapM_cons, Sem.run_bind, Sem.run_pure, Result.andThen_ok, h0, i1, SV.denL]
      · cases h
    · cases h

theorem run_results {C : Ctx} {m : Mem} {E : Env} {H : HV} {w : World} (g : Good C m E H w) {tmps : List SV} (hok : SV.OkL H tmps) {fn : Func} {l : List SV}
    (h : resS P m tmps fn.results.toList = some l) : (results fn (SV.denL E tmps).toArray).run P w = .ok ((one? l).den E) w ∧ (one? l).Ok H := by
  obtain ⟨h1, h2⟩ := results_spec (P := P) g hok h
  have hm : (fn.results.mapM (rsem (SV.denL E tmps).toArray)).run P w = .ok (SV.denL E l).toArray w := by
    rw [Array.mapM_eq_mapM_toList]
    simp only [Sem.run_map, h1, Result.andThen_ok]
  refine ⟨?_, ?_⟩
  · rw [results_eq]
    simp only [Sem.run_bind, hm, Result.andThen_ok, Sem.run_pure]
    congr 1
    match l with
    | [] => simp [one?, SV.den, SV.denL]
    | [v] => simp [one?, SV.denL]
    | a :: b :: r => simp [one?, SV.den, SV.denL]
  · match l, h2 with
    | [], _ => simp [one?, SV.Ok, SV.OkL]
    | [v], h2 => exact h2.1
    | a :: b :: r, h2 => exact h2
end
end Sx
end
section
/- The symbolic machine is right: each step; the whole. -/
namespace Sx
open Go RowKit

section
variable {P : Program} {C : Ctx} {R : Value → World → Prop}

theorem fresh_spec {key : Nat} {c : Conf} (h : c.fresh key = true) : Mem.has key c.mem = false ∧ SV.hasL key c.top.tmps = false ∧ ∀ f, f ∈ c.rest → SV.hasL key f.tmps = false := by
  simp only [Conf.fresh, Bool.and_eq_true, Bool.not_eq_true', List.all_eq_true] at h
  exact ⟨h.1.1, h.1.2, h.2⟩

theorem rest_agree {key : Nat} {E E' : Env} (ha : Agree key E E') : ∀ {r : List SFrm}, (∀ f, f ∈ r → SV.hasL key f.tmps = false) → r.map (SFrm.den E') = r.map (SFrm.den E)
  | [], _ => rfl
  | f :: r, h => by
    simp only [List.map_cons]
    rw [rest_agree ha (fun g hg => h g (List.mem_cons_of_mem _ hg))]
    congr 1
    simp [SFrm.den, SV.denL_agree ha _ (h f List.mem_cons_self)]

/-- Another state with the same memory and the same frames below, from which the frame on top runs as well. -/
theorem runs_top {c c' : Conf} (h : Runs P C c' R) (hm : c'.mem = c.mem) (hr : c'.rest = c.rest) (hok : ∀ H, c.Ok H → SV.OkL H c'.top.tmps)
    (hrun : ∀ E w T, (c'.top.den E).run P w T → (c.top.den E).run P w T) : Runs P C c R := by
  intro E H w g ok
  have := h E H w (by rw [hm]; exact g) ⟨hok H ok, by rw [hr]; exact ok.2⟩
  rw [stkRun_eq] at this ⊢
  rw [hr] at this
  exact hrun E w _ this

/-- What goes on behind an operation. -/
def OpR.After (r : OpR) (P : Program) (C : Ctx) (R : Value → World → Prop) (c : Conf) (ops : Array Oper) (l : List Nat) (dst : Option Tmp) : Prop :=
  match r with
  | .val ps v m' => (∀ p, p ∈ ps → p) ∧ Runs P C { c with top := { c.top with ri := some (ops, l), tmps := putS c.top.tmps dst v }, mem := m' } R
  | .all ps g => (∀ p, p ∈ ps → p) ∧ ∀ hs, Runs P C { c with top := { c.top with ri := some (ops, l), tmps := putS c.top.tmps dst (g hs).1 }, mem := (g hs).2 } R
  | .bad => False

/-- Behind an operation: its outcome. -/
theorem runs_right {c : Conf} {ops : Array Oper} {i : Nat} {l : List Nat} {o : Oper} {key : Nat} (hri : c.top.ri = some (ops, i :: l)) (ho : ops[i]? = some o)
    (hg : guardR ops o c.top.tmps = .yes) (hf : c.fresh key = true) {r : OpR}
    (hr : ∀ E H w, Good C c.mem E H w → c.Ok H → r.Right C c.mem w key E H (RunsTo P (c.top.den E).act o w))
    (h : r.After P C R c ops l o.dst) : Runs P C c R := by
  intro E H w g ok
  have h1 := hr E H w g ok
  obtain ⟨f1, f2, f3⟩ := fresh_spec hf
  have fin : ∀ v m' w' E' H', RunsTo P (c.top.den E).act o w (v.den E') w' → Agree key E E' → HLe H H' → Good C m' E' H' w' → v.Ok H' →
      Runs P C { c with top := { c.top with ri := some (ops, l), tmps := putS c.top.tmps o.dst v }, mem := m' } R → StkRun P (c.top.den E) (c.rest.map (SFrm.den E)) w R := by
    intro v m' w' E' H' hrun ha hle g' hv hR
    have h2 := hR E' H' w' g' ⟨okL_putS (SV.OkL.mono hle _ ok.1) hv, fun f hf => SV.OkL.mono hle _ (ok.2 f hf)⟩
    rw [stkRun_eq] at h2 ⊢
    simp only at h2
    rw [rest_agree ha f3] at h2
    have e : (SFrm.den E' { c.top with ri := some (ops, l), tmps := putS c.top.tmps o.dst v }) = ⟨c.top.fn, some (ops, l), c.top.await, c.top.todo, (c.top.den E).act.put o.dst (v.den E')⟩ := by
      simp only [SFrm.den]
      rw [← put_den, SV.denL_agree ha _ f2]
    rw [e] at h2
    have e2 : c.top.den E = ⟨c.top.fn, some (ops, i :: l), c.top.await, c.top.todo, (c.top.den E).act⟩ := by simp [SFrm.den, hri]
    rw [e2]
    exact frm_op ho ((guardR_spec (E := E)).1 hg) hrun h2
  cases r with
  | val ps v m' =>
    obtain ⟨w', E', H', hrun, ha, hle, g', hv, _⟩ := h1 h.1
    exact fin v m' w' E' H' hrun ha hle g' hv h.2
  | all ps gg =>
    obtain ⟨hs, w', E', H', hrun, ha, hle, g', hv, _⟩ := h1 h.1
    exact fin _ _ w' E' H' hrun ha hle g' hv (h.2 hs)
  | bad => exact h.elim

theorem runs_opr {c : Conf} {ops : Array Oper} {i : Nat} {l : List Nat} {o : Oper} {key : Nat} (hri : c.top.ri = some (ops, i :: l)) (ho : ops[i]? = some o)
    (hg : guardR ops o c.top.tmps = .yes) (hf : c.fresh key = true)
    (h : (opr P (evS c.top.tmps) c.mem key o.op).After P C R c ops l o.dst) : Runs P C c R := by
  obtain ⟨f1, f2, f3⟩ := fresh_spec hf
  refine runs_right hri ho hg hf (fun E H w g ok => ?_) h
  have hk : ∀ x, (evS c.top.tmps x).has key = false := by
    intro x
    cases x with
    | tmp t =>
      simp only [evS, List.getD_eq_getElem?_getD]
      cases ht : c.top.tmps[t]? with
      | none => simp [SV.has]
      | some v => exact (SV.hasL_iff _).1 f2 v (List.mem_of_getElem? ht)
    | const v =>
      simp only [evS]
      unfold ofVal
      have h1 : ∀ v : Value, (ofVal1 v).has key = false := by intro v; unfold ofVal1; split <;> simp [SV.has]
      split
      · simp only [SV.has, SV.hasL_iff]; intro x hx; obtain ⟨y, _, rfl⟩ := List.mem_map.1 hx; exact h1 y
      · exact h1 _
    | global g => simp [evS, SV.has]
    | func f => simp [evS, SV.has, SV.hasL]
  exact opr_spec g (fun x => den_evS E _ [] x) (ok_evS ok.1) f1 hk

theorem okL_args {H : HV} {tmps : List SV} (h : SV.OkL H tmps) {cl : Call} {f : FuncId} {first captured : List SV} (hc : calleeOf (evS tmps) cl.callee = some (f, first, captured)) :
    SV.OkL H (first ++ cl.args.toList.map (evS tmps) ++ captured) := by
  cases hcl : cl.callee with
  | invoke r n => simp [hcl, calleeOf] at hc
  | builtin b => simp [hcl, calleeOf] at hc
  | value x =>
    simp only [hcl, calleeOf] at hc
    split at hc
    · rename_i f' a' c' hx
      simp only [Option.some.injEq, Prod.mk.injEq] at hc
      obtain ⟨rfl, rfl, rfl⟩ := hc
      have := ok_evS h x
      rw [hx] at this
      refine okL_append (okL_append this.1 ?_) this.2
      rw [SV.OkL_iff]
      intro y hy
      obtain ⟨z, _, rfl⟩ := List.mem_map.1 hy
      exact ok_evS h z
    · cases hc

theorem has_evS {key : Nat} {tmps : List SV} (f2 : SV.hasL key tmps = false) (x : Operand) : (evS tmps x).has key = false := by
  cases x with
  | tmp t =>
    simp only [evS, List.getD_eq_getElem?_getD]
    cases ht : tmps[t]? with
    | none => simp [SV.has]
    | some v => exact (SV.hasL_iff _).1 f2 v (List.mem_of_getElem? ht)
  | const v =>
    simp only [evS]
    unfold ofVal
    have h1 : ∀ v : Value, (ofVal1 v).has key = false := by intro v; unfold ofVal1; split <;> simp [SV.has]
    split
    · simp only [SV.has, SV.hasL_iff]; intro x hx; obtain ⟨y, _, rfl⟩ := List.mem_map.1 hx; exact h1 y
    · exact h1 _
  | global g => simp [evS, SV.has]
  | func f => simp [evS, SV.has, SV.hasL]

theorem has_args {key : Nat} {tmps : List SV} (h : SV.hasL key tmps = false) {cl : Call} {f : FuncId} {first captured : List SV} (hc : calleeOf (evS tmps) cl.callee = some (f, first, captured)) :
    SV.hasL key (first ++ cl.args.toList.map (evS tmps) ++ captured) = false := by
  cases hcl : cl.callee with
  | invoke r n => simp [hcl, calleeOf] at hc
  | builtin b => simp [hcl, calleeOf] at hc
  | value x =>
    simp only [hcl, calleeOf] at hc
    split at hc
    · rename_i f' a' c' hx
      simp only [Option.some.injEq, Prod.mk.injEq] at hc
      obtain ⟨rfl, rfl, rfl⟩ := hc
      have := has_evS h x
      rw [hx] at this
      simp only [SV.has, Bool.or_eq_false_iff] at this
      refine hasL_append (hasL_append this.1 ?_) this.2
      rw [SV.hasL_iff]
      intro y hy
      obtain ⟨z, _, rfl⟩ := List.mem_map.1 hy
      exact has_evS h z
    · cases hc

/-- A call by its contract. -/
theorem runs_ctr {c : Conf} {ops : Array Oper} {i : Nat} {l : List Nat} {o : Oper} {key : Nat} (hri : c.top.ri = some (ops, i :: l)) (ho : ops[i]? = some o)
    (hg : guardR ops o c.top.tmps = .yes) (hf : c.fresh key = true) {cl : Call} (hop : o.op = .call cl) {f : FuncId} {first captured : List SV}
    (hc : calleeOf (evS c.top.tmps) cl.callee = some (f, first, captured))
    {ctr : Ctr} (hctr : CtrOk P f ctr)
    (h : (ctr (first ++ cl.args.toList.map (evS c.top.tmps) ++ captured) key c.mem).After P C R c ops l o.dst) : Runs P C c R := by
  intro E H w g ok
  obtain ⟨f1, f2, f3⟩ := fresh_spec hf
  obtain ⟨⟨fn, hfn, hb, hn⟩, hctr, _⟩ := hctr
  have hcall := hctr C E H w _ key c.mem g (okL_args ok.1 hc) f1 (has_args f2 hc)
  have hrun := run_call (P := P) (fun x => den_evS E c.top.tmps [] x) hc hfn hb hn hop w
  have e2 : c.top.den E = ⟨c.top.fn, some (ops, i :: l), c.top.await, c.top.todo, (c.top.den E).act⟩ := by simp [SFrm.den, hri]
  have fin : ∀ v m' w' E' H', Agree key E E' → HLe H H' → Good C m' E' H' w' → v.Ok H' →
      Runs P C { c with top := { c.top with ri := some (ops, l), tmps := putS c.top.tmps o.dst v }, mem := m' } R →
      CFrm.run P ⟨c.top.fn, some (ops, l), c.top.await, c.top.todo, (c.top.den E).act.put o.dst (v.den E')⟩ w' (restOf P (c.rest.map (SFrm.den E)) R) := by
    intro v m' w' E' H' ha hle g' hv hR
    have h2 := hR E' H' w' g' ⟨okL_putS (SV.OkL.mono hle _ ok.1) hv, fun f hf => SV.OkL.mono hle _ (ok.2 f hf)⟩
    rw [stkRun_eq] at h2
    simp only at h2
    rw [rest_agree ha f3] at h2
    have e : (SFrm.den E' { c.top with ri := some (ops, l), tmps := putS c.top.tmps o.dst v }) = ⟨c.top.fn, some (ops, l), c.top.await, c.top.todo, (c.top.den E).act.put o.dst (v.den E')⟩ := by
      simp only [SFrm.den]
      rw [← put_den, SV.denL_agree ha _ f2]
    rw [e] at h2
    exact h2
  rw [stkRun_eq, e2]
  generalize ctr (first ++ cl.args.toList.map (evS c.top.tmps) ++ captured) key c.mem = r at h hcall
  cases r with
  | val ps v m' =>
    have hcall := hcall h.1
    refine frm_call ho ((guardR_spec (E := E)).1 hg) hrun (T := fun v' w' => ∃ E' H', v' = v.den E' ∧ Agree key E E' ∧ HLe H H' ∧ Good C m' E' H' w' ∧ v.Ok H')
      (Calls.mono hcall fun e w' he => ?_) (fun v' w' hT => ?_)
    · obtain ⟨E', H', rfl, h1, h2, h3, h4, _⟩ := he
      exact ⟨_, rfl, E', H', rfl, h1, h2, h3, h4⟩
    · obtain ⟨E', H', rfl, ha, hle, g', hv⟩ := hT
      exact fin v m' w' E' H' ha hle g' hv h.2
  | all ps gg =>
    have hcall := hcall h.1
    refine frm_call ho ((guardR_spec (E := E)).1 hg) hrun (T := fun v' w' => ∃ hs E' H', v' = (gg hs).1.den E' ∧ Agree key E E' ∧ HLe H H' ∧ Good C (gg hs).2 E' H' w' ∧ (gg hs).1.Ok H')
      (Calls.mono hcall fun e w' he => ?_) (fun v' w' hT => ?_)
    · obtain ⟨hs, E', H', rfl, h1, h2, h3, h4, _⟩ := he
      exact ⟨_, rfl, hs, E', H', rfl, h1, h2, h3, h4⟩
    · obtain ⟨hs, E', H', rfl, ha, hle, g', hv⟩ := hT
      exact fin _ _ w' E' H' ha hle g' hv (h.2 hs)
  | bad => exact h.elim

/-- A call whose frame is walked. -/
theorem runs_in {c : Conf} {ops : Array Oper} {i : Nat} {l : List Nat} {o : Oper} (hri : c.top.ri = some (ops, i :: l)) (ho : ops[i]? = some o)
    (hg : guardR ops o c.top.tmps = .yes) {cl : Call} (hop : o.op = .call cl) {f : FuncId} {first captured : List SV}
    (hc : calleeOf (evS c.top.tmps) cl.callee = some (f, first, captured)) {fn : Func} (hfn : P.funcs[f]? = some fn) {body : Code} (hb : fn.body = some body) (hn : (fn.name == "runtime.NumGoroutine") = false)
    (h : Runs P C { top := ⟨f, none, none, [.code body], (first ++ cl.args.toList.map (evS c.top.tmps) ++ captured) ++ List.replicate (fn.ntmps - (first ++ cl.args.toList.map (evS c.top.tmps) ++ captured).length) .undef⟩,
                    rest := { c.top with ri := some (ops, l), await := o.dst } :: c.rest, mem := c.mem } R) : Runs P C c R := by
  intro E H w g ok
  have hrun := run_call (P := P) (fun x => den_evS E c.top.tmps [] x) hc hfn (by simp [hb]) hn hop w
  have e2 : c.top.den E = ⟨c.top.fn, some (ops, i :: l), c.top.await, c.top.todo, (c.top.den E).act⟩ := by simp [SFrm.den, hri]
  have hargs := okL_args ok.1 hc
  generalize first ++ cl.args.toList.map (evS c.top.tmps) ++ captured = args at h hrun hargs
  have h1 := h E H w g ⟨okL_append hargs (by rw [SV.OkL_iff]; intro x hx; rw [List.eq_of_mem_replicate hx]; simp [SV.Ok]), fun f hf => by
    rcases List.mem_cons.1 hf with rfl | hf
    · exact ok.1
    · exact ok.2 f hf⟩
  rw [stkRun_eq, e2]
  rw [stkRun_eq] at h1
  simp only [SFrm.den, List.map_cons] at h1
  refine frm_call ho ((guardR_spec (E := E)).1 hg) hrun (T := fun v w' => StkRun P ⟨c.top.fn, some (ops, l), o.dst, c.top.todo, (c.top.den E).act.put o.dst v⟩ (c.rest.map (SFrm.den E)) w' R) (calls_of_go1 hfn hb ?_) (fun v w' hT => ?_)
  · simp only [CFrm.run] at h1
    have e3 : (SV.denL E args).toArray ++ Array.replicate (fn.ntmps - (SV.denL E args).toArray.size) undef = (SV.denL E (args ++ List.replicate (fn.ntmps - args.length) .undef)).toArray := by
      simp [SV.denL_eq, SV.den, ← List.toArray_replicate]
    rw [e3]
    exact h1
  · rw [stkRun_eq] at hT
    exact hT

theorem closeV_spec {E : Env} {H : HV} {w : World} {m : Mem} (g : Good C m E H w) : (∀ v : SV, v.Ok H → (closeV m v).den E = v.den E ∧ (closeV m v).Ok H) := by
  have key : ∀ v : SV, (v.Ok H → (closeV m v).den E = v.den E ∧ (closeV m v).Ok H) := by
    intro v
    refine SV.rec (motive_1 := fun v => v.Ok H → (closeV m v).den E = v.den E ∧ (closeV m v).Ok H)
      (motive_2 := fun l => SV.OkL H l → SV.denL E (closeL m l) = SV.denL E l ∧ SV.OkL H (closeL m l)) ?_ ?_ ?_ ?_ ?_ ?_ ?_ ?_ ?_ ?_ ?_ ?_ ?_ ?_ ?_ ?_ ?_ ?_ ?_ ?_ ?_ v
    case refine_7 =>
      intro k _
      simp only [closeV]
      split
      · rename_i d hk
        obtain ⟨⟨a, b, c, rfl, e⟩, hok⟩ := g.own k _ (Mem.get_mem hk)
        exact ⟨by simp only [SV.den, e]; rfl, hok, a, b, c, rfl⟩
      · exact ⟨rfl, by simp [SV.Ok]⟩
    case refine_12 =>
      intro l ih h
      simp only [SV.Ok] at h
      obtain ⟨h1, h2⟩ := ih h
      exact ⟨by simp only [closeV, SV.den, h1], by simpa only [closeV, SV.Ok] using h2⟩
    case refine_13 =>
      intro l ih h
      simp only [SV.Ok] at h
      obtain ⟨h1, h2⟩ := ih h
      exact ⟨by simp only [closeV, SV.den, h1], by simpa only [closeV, SV.Ok] using h2⟩
    case refine_20 => intro _; exact ⟨rfl, by simp [closeL, SV.OkL]⟩
    case refine_21 =>
      intro x r ih1 ih2 h
      obtain ⟨a, b⟩ := ih1 h.1
      obtain ⟨c, d⟩ := ih2 h.2
      exact ⟨by simp only [closeL, SV.denL, a, c], b, d⟩
    all_goals (intros; exact ⟨rfl, by assumption⟩)
  exact key
end
end Sx
end
section
/- To forget what nobody reads any more. -/
namespace Sx
open Go RowKit

/-- The same but for forgotten values from n on. -/
def Same (n : Nat) (E E' : Env) : Prop := E'.b = E.b ∧ E'.v = E.v ∧ ∀ i, i < n → E'.j i = E.j i

theorem den_same {n : Nat} {E E' : Env} (h : Same n E E') (v : SV) : v.jk n = false → v.den E' = v.den E := by
  obtain ⟨h1, h2, h3⟩ := h
  refine SV.rec (motive_1 := fun v => v.jk n = false → v.den E' = v.den E) (motive_2 := fun l => SV.jkL n l = false → SV.denL E' l = SV.denL E l)
    ?_ ?_ ?_ ?_ ?_ ?_ ?_ ?_ ?_ ?_ ?_ ?_ ?_ ?_ ?_ ?_ ?_ ?_ ?_ ?_ ?_ v
  case refine_12 => intro l ih hj; simp only [SV.den, ih (by simpa [SV.jk] using hj)]
  case refine_13 => intro l ih hj; simp only [SV.den, ih (by simpa [SV.jk] using hj)]
  case refine_14 => intro f a c ih1 ih2 hj; simp only [SV.jk, Bool.or_eq_false_iff] at hj; simp only [SV.den, ih1 hj.1, ih2 hj.2]
  case refine_18 => intro i hj; simp only [SV.jk, decide_eq_false_iff_not, Nat.not_le] at hj; simp only [SV.den]; exact h3 i hj
  case refine_20 => intro _; simp [SV.denL]
  case refine_21 => intro x r ih1 ih2 hj; simp only [SV.jkL, Bool.or_eq_false_iff] at hj; simp only [SV.denL, ih1 hj.1, ih2 hj.2]
  all_goals (intros; simp only [SV.den, h1, h2])

theorem denL_same {n : Nat} {E E' : Env} (h : Same n E E') : ∀ (l : List SV), SV.jkL n l = false → SV.denL E' l = SV.denL E l
  | [], _ => by simp [SV.denL]
  | x :: r, hj => by
    simp only [SV.jkL, Bool.or_eq_false_iff] at hj
    simp only [SV.denL, den_same h x hj.1, denL_same h r hj.2]

theorem OOk.same {C : Ctx} {n : Nat} {E E' : Env} {H : HV} {w : World} {k : Nat} {o : OBlk} (h : OOk C E H w k o) (hs : Same n E E') (ho : o.jk n = false) : OOk C E' H w k o := by
  obtain ⟨h1, h2, h3⟩ := id hs
  cases o with
  | cells t cs =>
    obtain ⟨a, b, c, d⟩ := h
    refine ⟨by rw [h1]; exact a, ?_, by rw [h1]; exact c, d⟩
    rw [h1, denL_same hs cs (by simpa [OBlk.jk] using ho)]; exact b
  | pub d => exact ⟨by rw [h2]; exact h.1, h.2⟩
  | map es =>
    obtain ⟨a, b, ⟨en, cl, hh, hm⟩, c⟩ := h
    refine ⟨by rw [h1]; exact a, by rw [h1]; exact b, ⟨en, cl, by rw [h1]; exact hh, ?_⟩, c⟩
    refine hm.trans (List.Perm.of_eq ?_)
    apply List.map_congr_left
    intro e he
    simp only [OBlk.jk, List.any_eq_false, Bool.or_eq_true, not_or, Bool.not_eq_true] at ho
    rw [den_same hs _ (ho e he).1, den_same hs _ (ho e he).2]
  | arr e d =>
    obtain ⟨hd, sz, rows, rfl, hv, how, hl, hk2, hx⟩ := h
    exact ⟨hd, sz, rows, rfl, by rw [h2]; exact hv, how, hl, hk2, fun a c hc => by
      obtain ⟨p, q⟩ := hx a c hc
      exact ⟨by rw [h1]; exact p, by rw [h1]; exact q⟩⟩

theorem Good.same' {C : Ctx} {n : Nat} {m : Mem} {E E' : Env} {H : HV} {w : World} (g : Good C m E H w) (hs : Same n E E') (hm : ∀ x, x ∈ m → x.2.jk n = false) : Good C m E' H w :=
  ⟨g.below, g.ext, g.fresh, g.cell, fun k o h => (g.own k o h).same hs (hm _ h), g.keys, fun x y hx hy hne h1 h2 => by rw [hs.1]; exact g.apart x y hx hy hne h1 h2⟩

theorem maskT_den {n : Nat} {E E' : Env} (hs : Same n E E') (live : List Nat) : ∀ (l : List SV) (t : Nat), keptOk n live t l = true →
    (∀ i v, l[i]? = some v → E'.j (n + (t + i)) = v.den E) → SV.denL E' (maskT n live t l) = SV.denL E l
  | [], _, _, _ => by simp [maskT, SV.denL]
  | v :: r, t, hk, hj => by
    simp only [keptOk, Bool.and_eq_true] at hk
    have ih := maskT_den hs live r (t + 1) hk.2 (fun i u hu => by have := hj (i + 1) u (by simpa using hu); rw [show t + 1 + i = t + (i + 1) from by omega]; exact this)
    simp only [maskT, SV.denL, ih]
    congr 1
    split
    · rename_i hc
      rw [if_pos hc] at hk
      exact den_same hs v (by simpa using hk.1)
    · have := hj 0 v (by simp)
      simpa [SV.den] using this

theorem maskT_ok {n : Nat} {H : HV} (live : List Nat) : ∀ (l : List SV) (t : Nat), SV.OkL H l → SV.OkL H (maskT n live t l)
  | [], _, _ => by simp [maskT, SV.OkL]
  | v :: r, t, h => by
    simp only [maskT, SV.OkL]
    refine ⟨?_, maskT_ok live r (t + 1) h.2⟩
    split
    · exact h.1
    · simp [SV.Ok]

theorem forget_sound {P : Program} {C : Ctx} {R : Value → World → Prop} {live : List Nat} {c c' : Conf} (hf : forgetC live c = some c') (h : Runs P C c' R) : Runs P C c R := by
  unfold forgetC at hf
  simp only at hf
  split at hf
  · rename_i hc
    simp only [Bool.and_eq_true] at hc
    obtain ⟨⟨h1, h2⟩, h3⟩ := hc
    cases hf
    intro E H w g ok
    let n := 1000 * c.rest.length
    let E' : Env := ⟨E.b, E.v, fun i => if i < n then E.j i else ((SV.denL E c.top.tmps)[i - n]?).getD Go.undef⟩
    have hs : Same n E E' := ⟨rfl, rfl, fun i hi => by simp [E', hi]⟩
    have hg := (g.sub (List.filter_sublist (p := fun e => (reachK c.mem (maskT n live 0 c.top.tmps) c.rest (c.mem.length + 1) []).contains e.1))).same' hs
      (fun x hx => by have := List.all_eq_true.1 h2 x hx; simpa using this)
    have hr := h E' H w hg ⟨maskT_ok live _ _ ok.1, ok.2⟩
    have e1 : SV.denL E' (maskT n live 0 c.top.tmps) = SV.denL E c.top.tmps := by
      refine maskT_den hs live _ 0 h1 (fun i v hv => ?_)
      simp only [E', Nat.zero_add]
      rw [if_neg (by omega), show n + i - n = i from by omega, SV.denL_eq, List.getElem?_map, hv]
      rfl
    have e2 : c.rest.map (SFrm.den E') = c.rest.map (SFrm.den E) := by
      apply List.map_congr_left
      intro f hf
      have := List.all_eq_true.1 h3 f hf
      simp only [Bool.not_eq_true'] at this
      simp [SFrm.den, denL_same hs _ this]
    simp only at hr
    rw [e2] at hr
    have e3 : SFrm.den E' { c.top with tmps := maskT (1000 * c.rest.length) live 0 c.top.tmps } = c.top.den E := by
      simp only [SFrm.den]
      rw [show SV.denL E' (maskT (1000 * c.rest.length) live 0 c.top.tmps) = SV.denL E c.top.tmps from e1]
    rw [e3] at hr
    exact hr
  · cases hf

theorem fgt_sound {P : Program} {C : Ctx} {R : Value → World → Prop} {c : Conf} (h : Runs P C (fgt P c) R) : Runs P C c R := by
  unfold fgt at h
  split at h
  · rename_i c' hc; exact forget_sound hc h
  · exact h
end Sx
end
section
/- Regions whose order is drawn. -/
namespace Sx
open Go RowKit

section
variable {P : Program} {C : Ctx}

/-- Quick operations leave the world as it is. -/
theorem oprQ_spec {m : Mem} {E : Env} {H : HV} {w : World} {tmps : List SV} {o : Oper} (g : Good C m E H w) (hok' : SV.OkL H tmps) {ps : List Prop} {v : SV}
    (h : oprQ P tmps m o.op = some (ps, v)) (hp : ∀ p, p ∈ ps → p) :
    (execOp (⟨(SV.denL E tmps).toArray, []⟩ : Act).eval o).run P w = .ok (.value (v.den E)) w ∧ v.Ok H := by
  have hok : ∀ x, (evS tmps x).Ok H := ok_evS hok'
  have evn : (⟨(SV.denL E tmps).toArray, []⟩ : Act).eval = fun x => (evS tmps x).den E := funext fun x => den_evS E tmps [] x
  rw [evn]
  obtain ⟨dst, op, type, pos, after, guard⟩ := o
  simp only [oprQ] at h
  cases op <;> simp only [quickOp, if_true, Bool.false_eq_true, if_false, reduceCtorEq, opr] at h
  case move x => simp only [Option.some.injEq, Prod.mk.injEq] at h; obtain ⟨rfl, rfl⟩ := h; exact ⟨by simp [execOp], hok x⟩
  case assign x => simp only [Option.some.injEq, Prod.mk.injEq] at h; obtain ⟨rfl, rfl⟩ := h; exact ⟨by simp [execOp], hok x⟩
  case pick c x y =>
    split at h
    · rename_i ps' v' m' he
      split at he
      · rename_i hc; cases he; cases h; exact ⟨by simp [execOp, hc, SV.den, run_bool], hok x⟩
      · rename_i hc; cases he; cases h; exact ⟨by simp [execOp, hc, SV.den, run_bool], hok y⟩
      · cases he
    · cases h
  case build t qs =>
    split at h
    · rename_i ps' v' m' he
      split at he
      · rename_i u hv
        cases he; cases h
        obtain ⟨h1, h2⟩ := buildR_spec (E := E) (w := w) (H := H) hv (fun p hp => by obtain ⟨y, _, rfl⟩ := List.mem_map.1 hp; exact hok _)
        refine ⟨?_, h2⟩
        simp only [List.map_map] at h1
        have e : (qs.map fun x => (x.1, (evS tmps x.2).den E)) = (qs.toList.map ((fun p : Nat × SV => (p.1, p.2.den E)) ∘ fun x => (x.1, evS tmps x.2))).toArray := by
          rw [array_map_list]; rfl
        simp only [execOp, Sem.run_bind]
        rw [show (qs.map fun x => match x with | (i, x) => (i, (evS tmps x).den E)) = (qs.map fun x => (x.1, (evS tmps x.2).den E)) from rfl, e, h1]
        rfl
      · cases he
    · cases h
  case load t x =>
    split at h
    · rename_i ps' v' m' he
      split at he
      · rename_i qs u hv
        cases he; cases h
        obtain ⟨h1, h2⟩ := loadR_spec g (hok x) hv hp
        exact ⟨by simp only [execOp, Sem.run_bind, h1]; rfl, h2⟩
      · cases he
    · cases h
  case nilCheck x =>
    have hx := hok x
    split at h
    · rename_i ps' v' m' he
      split at he
      all_goals first | (cases he; done) | (rename_i hc; rw [hc] at hx; cases he; cases h; exact ⟨by simp [execOp, hc, SV.den], hx⟩)
    · cases h
  case binOp op t x y yt =>
    split at h
    · rename_i ps' v' m' he
      split at he
      · rename_i qs u hv
        cases he; cases h
        obtain ⟨h1, h2⟩ := binR_spec g (hok x) hv hp x y
        exact ⟨by simp only [execOp]; rw [Sem.run_bind, h1]; rfl, h2⟩
      · cases he
    · cases h
  case unOp op t x =>
    split at h
    · rename_i ps' v' m' he
      split at he
      · rename_i u hv
        cases he; cases h
        obtain ⟨h1, h2⟩ := unR_spec (P := P) (E := E) (H := H) (w := w) hv
        exact ⟨by simp only [execOp, Sem.run_bind, h1]; rfl, h2⟩
      · cases he
    · cases h
  case convert src dst x =>
    split at h
    · rename_i ps' v' m' he
      split at he
      · rename_i ds k k' n hs hd hx
        cases he; cases h
        refine ⟨?_, by simp [SV.Ok]⟩
        simp only [execOp, hx, SV.den, Go.convert, Sem.run_bind, run_underlying hs, run_underlying hd, Result.andThen_ok]
        cases ds <;> simp [Conv.intToInt]
      · rename_i e hs hd
        split at he
        · rename_i d he' hda
          cases he; cases h
          refine ⟨?_, by simp [SV.Ok]⟩
          simp only [execOp, Sem.run_bind, bytes_spec g (hok x) hda (hp _ (List.mem_singleton.2 rfl)) hs he' hd]
          rfl
        · cases he
      · cases he
    · cases h
  case extract x i =>
    split at h
    · rename_i ps' v' m' he
      split at he
      · rename_i l hx
        split at he
        · rename_i u hv
          cases he; cases h
          have := hok x
          rw [hx] at this
          exact ⟨by simp [execOp, hx, SV.den, Instr.extract, SV.denL_eq, hv], (SV.OkL_iff l).1 this _ (List.mem_of_getElem? hv)⟩
        · cases he
      · cases he
    · cases h
  case fieldAddr s x f =>
    split at h
    · rename_i ps' v' m' he
      split at he
      · rename_i u hv
        cases he; cases h
        obtain ⟨h1, h2⟩ := fieldR_spec (E := E) (w := w) hv (hok x)
        exact ⟨by simp only [execOp, Sem.run_bind, h1]; rfl, h2⟩
      · cases he
    · cases h
  case indexAddr t x i =>
    split at h
    · rename_i ps' v' m' he
      split at he
      · rename_i qs u hv
        cases he; cases h
        obtain ⟨h1, h2⟩ := indexR_spec g (hok x) hv hp
        exact ⟨by simp only [execOp, Sem.run_bind, h1]; rfl, h2⟩
      · cases he
    · cases h
  case makeFunc fn first captured =>
    split at h
    · rename_i ps' v' m' he
      split at he
      · cases he; cases h
        refine ⟨?_, ?_⟩
        · simp only [execOp, Instr.makeFunc, SV.den, SV.denL_eq, array_map_list, List.map_map]; rfl
        · simp only [SV.Ok, SV.OkL_iff]
          exact ⟨fun x hx => by obtain ⟨y, _, rfl⟩ := List.mem_map.1 hx; exact hok y, fun x hx => by obtain ⟨y, _, rfl⟩ := List.mem_map.1 hx; exact hok y⟩
      · cases he
    · cases h
  case call c =>
    obtain ⟨callee, args, argTypes⟩ := c
    simp only at h
    split at h
    · simp only [if_true] at h
      simp only [callB] at h
      split at h
      · rename_i ps' v' m' he
        split at he
        · rename_i x t _ ha ht
          split at he
          · rename_i e d hu hd
            cases he; cases h
            obtain ⟨hv, hr, _⟩ := dataOf_spec g (hok x) hd
            refine ⟨?_, by simp [SV.Ok]⟩
            have ea : args = #[x] := by rw [← Array.toArray_toList (xs := args), ha]
            have et : argTypes = #[t] := by rw [← Array.toArray_toList (xs := argTypes), ht]
            subst ea; subst et
            simp only [execOp, resolve, invoke, builtin, Sem.run_bind, Sem.run_pure, Result.andThen_ok, List.map_toArray, List.map_cons, List.map_nil]
            have : (Builtin.len_ #[t] type #[(evS tmps x).den E]).run P w = .ok (.int .i64 d.len) w := by
              rw [hv]
              cases hh : d.hd with
              | none =>
                have h0 : d.len = 0 := by
                  rcases hr.2 with ⟨_, h0⟩ | ⟨a', c', h1, _⟩
                  · simp [D.len, h0]
                  · rw [hv, hh] at h1; simp [hval] at h1
                simp [Builtin.len_, hval, run_underlying hu, goInt, h0]
              | some q => simp [Builtin.len_, hval, run_underlying hu, goInt]
            rw [this]
            rfl
          · cases he
        · rename_i hne _ _; cases hne
        · rename_i hne _; cases hne
        · rename_i hne _; cases hne
        · cases he
      · cases h
    · simp at h
end
end Sx
end
section
/- One order of a region is walked; the others come to the same: what an operation looks at and what it changes. -/
namespace Sx
open Go RowKit

mutual
/-- The keys that a value names, at whatever depth. -/
def SV.keys : SV → List Nat
  | .vec k => [k]
  | .ptr k _ => [k]
  | .velt k _ _ _ => [k]
  | .mapp k => [k]
  | .agg l => SV.keysL l
  | .tup l => SV.keysL l
  | .fn _ a c => SV.keysL a ++ SV.keysL c
  | _ => []
def SV.keysL : List SV → List Nat
  | [] => []
  | x :: r => SV.keys x ++ SV.keysL r
end

mutual
theorem SV.has_of_keys {k : Nat} : ∀ x : SV, k ∉ x.keys → x.has k = false
  | .vec j, h => by simp only [SV.keys, List.mem_singleton] at h; simp [SV.has, Ne.symm h]
  | .ptr j _, h => by simp only [SV.keys, List.mem_singleton] at h; simp [SV.has, Ne.symm h]
  | .velt j _ _ _, h => by simp only [SV.keys, List.mem_singleton] at h; simp [SV.has, Ne.symm h]
  | .mapp j, h => by simp only [SV.keys, List.mem_singleton] at h; simp [SV.has, Ne.symm h]
  | .agg l, h => by simp only [SV.keys] at h; simp only [SV.has]; exact SV.hasL_of_keys l h
  | .tup l, h => by simp only [SV.keys] at h; simp only [SV.has]; exact SV.hasL_of_keys l h
  | .fn _ a c, h => by
    simp only [SV.keys, List.mem_append, not_or] at h
    simp only [SV.has, SV.hasL_of_keys a h.1, SV.hasL_of_keys c h.2, Bool.or_self]
  | .int .., _ => by simp [SV.has]
  | .bool _, _ => by simp [SV.has]
  | .lb _, _ => by simp [SV.has]
  | .str _, _ => by simp [SV.has]
  | .nils, _ => by simp [SV.has]
  | .dat _, _ => by simp [SV.has]
  | .elt .., _ => by simp [SV.has]
  | .nilp, _ => by simp [SV.has]
  | .nilf, _ => by simp [SV.has]
  | .undef, _ => by simp [SV.has]
  | .junk _, _ => by simp [SV.has]
  | .raw _, _ => by simp [SV.has]
theorem SV.hasL_of_keys {k : Nat} : ∀ l : List SV, k ∉ SV.keysL l → SV.hasL k l = false
  | [], _ => by simp [SV.hasL]
  | x :: r, h => by
    simp only [SV.keysL, List.mem_append, not_or] at h
    simp only [SV.hasL, SV.has_of_keys x h.1, SV.hasL_of_keys r h.2, Bool.or_self]
end

theorem SV.mem_keysL {k : Nat} : ∀ {l : List SV}, k ∈ SV.keysL l ↔ ∃ x, x ∈ l ∧ k ∈ x.keys
  | [] => by simp [SV.keysL]
  | x :: r => by simp [SV.keysL, SV.mem_keysL (l := r)]

def OBlk.keys : OBlk → List Nat
  | .cells _ cs => SV.keysL cs
  | .map es => es.flatMap fun e => e.1.keys ++ e.2.keys
  | _ => []

theorem OBlk.has_of_keys {k : Nat} {o : OBlk} (h : k ∉ o.keys) : o.has k = false := by
  cases o with
  | cells t cs => exact SV.hasL_of_keys cs h
  | map es =>
    simp only [OBlk.keys, List.mem_flatMap, List.mem_append, not_exists, not_and, not_or] at h
    simp only [OBlk.has, List.any_eq_false, Bool.or_eq_true, not_or, Bool.not_eq_true]
    intro e he
    exact ⟨SV.has_of_keys _ (h e he).1, SV.has_of_keys _ (h e he).2⟩
  | arr e d => rfl
  | pub d => rfl

/-- All keys that a memory names. -/
def Mem.named (m : Mem) : List Nat := m.flatMap fun e => e.1 :: e.2.keys

theorem Mem.has_of_named {k : Nat} {m : Mem} (h : k ∉ Mem.named m) : Mem.has k m = false := by
  simp only [Mem.named, List.mem_flatMap, List.mem_cons, not_exists, not_and, not_or] at h
  simp only [Mem.has, List.any_eq_false, Bool.or_eq_true, beq_iff_eq, not_or, Bool.not_eq_true]
  intro e he
  exact ⟨fun e' => (h e he).1 e'.symm, OBlk.has_of_keys (h e he).2⟩

/-- A set of numbers as the bits of one. -/
def maskN : List Nat → Nat
  | [] => 0
  | k :: r => 2 ^ k ||| maskN r

theorem maskN_bit (k : Nat) : ∀ l : List Nat, (maskN l).testBit k = l.contains k
  | [] => by simp [maskN]
  | j :: r => by
    simp only [maskN, Nat.testBit_or, Nat.testBit_two_pow, maskN_bit k r, List.contains_cons]
    congr 1
    by_cases h : j = k
    · subst h; simp
    · simp [h, Ne.symm h]

theorem mask_apart {a b : Nat} (h : (a &&& b) = 0) (k : Nat) (ha : a.testBit k = true) : b.testBit k = false := by
  have : (a &&& b).testBit k = false := by rw [h]; simp
  rw [Nat.testBit_and, ha, Bool.true_and] at this
  exact this

theorem apartN {l r : List Nat} (h : (maskN l &&& maskN r) = 0) : ∀ k, k ∈ l → k ∉ r := by
  intro k hk hr
  have := mask_apart h k (by rw [maskN_bit]; simpa using hk)
  rw [maskN_bit] at this
  simp [hr] at this

/-- The entries at certain keys. -/
def pickM (m : Mem) (T : List Nat) : Mem := T.filterMap fun k => (m.get k).map fun o => (k, o)

def dropM (m : Mem) (T : List Nat) : Mem := m.filter fun e => !T.contains e.1

theorem Mem.get_append (a b : Mem) (k : Nat) : Mem.get (a ++ b) k = (Mem.get a k).or (Mem.get b k) := by
  induction a with
  | nil => simp [Mem.get]
  | cons x r ih =>
    obtain ⟨j, o⟩ := x
    simp only [List.cons_append, Mem.get]
    split
    · simp
    · exact ih

theorem Mem.get_drop (m : Mem) (T : List Nat) (k : Nat) : Mem.get (dropM m T) k = if k ∈ T then none else m.get k := by
  induction m with
  | nil => simp [dropM, Mem.get]
  | cons x r ih =>
    obtain ⟨j, o⟩ := x
    unfold dropM at ih ⊢
    simp only [List.filter_cons]
    by_cases hj : T.contains j = true
    · simp only [hj, Bool.not_true, Bool.false_eq_true, if_false, ih, Mem.get]
      by_cases hk : k ∈ T
      · simp [hk]
      · have : j ≠ k := fun e => hk (by subst e; simpa using hj)
        simp [hk, this]
    · simp only [hj, Bool.not_false, if_true, Mem.get, ih]
      by_cases hjk : j = k
      · subst hjk
        have : j ∉ T := by simpa using hj
        simp [this]
      · simp [hjk]

theorem Mem.get_none {m : Mem} {k : Nat} (h : k ∉ m.map (·.1)) : m.get k = none := by
  cases hg : m.get k with
  | none => rfl
  | some o => exact absurd (List.mem_map.2 ⟨_, Mem.get_mem hg, rfl⟩) h

theorem pickM_congr {m m' : Mem} {T : List Nat} (h : ∀ k, k ∈ T → m.get k = m'.get k) : pickM m T = pickM m' T := by
  unfold pickM
  induction T with
  | nil => rfl
  | cons x r ih =>
    simp only [List.filterMap_cons]
    rw [h x List.mem_cons_self, ih fun k hk => h k (List.mem_cons_of_mem _ hk)]

theorem pickM_mem {m : Mem} {T : List Nat} {x : Nat × OBlk} (h : x ∈ pickM m T) : x ∈ m ∧ x.1 ∈ T := by
  simp only [pickM, List.mem_filterMap, Option.map_eq_some_iff] at h
  obtain ⟨k, hk, o, ho, rfl⟩ := h
  exact ⟨Mem.get_mem ho, hk⟩

theorem Mem.get_of_mem {m : Mem} (hp : m.Pairwise fun x y => x.1 ≠ y.1) {k : Nat} {o : OBlk} (h : (k, o) ∈ m) : m.get k = some o := by
  cases hg : m.get k with
  | none =>
    exfalso
    induction m with
    | nil => cases h
    | cons x r ih =>
      obtain ⟨j, p⟩ := x
      simp only [Mem.get] at hg
      split at hg
      · cases hg
      · rename_i hj
        rcases List.mem_cons.1 h with h | h
        · cases h; simp at hj
        · exact ih (List.pairwise_cons.1 hp).2 h hg
  | some p => exact congrArg some (Mem.unique hp (Mem.get_mem hg) h)

theorem pickM_keys {m : Mem} : ∀ {T : List Nat}, T.Nodup → (pickM m T).Pairwise fun x y => x.1 ≠ y.1
  | [], _ => by simp [pickM]
  | k :: r, h => by
    simp only [List.nodup_cons] at h
    have ih := pickM_keys (m := m) h.2
    unfold pickM at ih ⊢
    simp only [List.filterMap_cons]
    cases hg : m.get k with
    | none => simpa [hg] using ih
    | some o =>
      simp only [Option.map_some, List.pairwise_cons]
      refine ⟨fun x hx => ?_, ih⟩
      have := (pickM_mem (m := m) (T := r) (by unfold pickM; exact hx)).2
      exact fun e => h.1 (by simpa [e] using this)

/-- A memory that is cut in two, and put together again. -/
theorem Good.cut {C : Ctx} {m : Mem} {E : Env} {H : HV} {w : World} {T : List Nat} (hT : T.Nodup) (g : Good C m E H w) : Good C (pickM m T ++ dropM m T) E H w := by
  have hin : ∀ x, x ∈ pickM m T ++ dropM m T → x ∈ m := by
    intro x hx
    rcases List.mem_append.1 hx with h | h
    · exact (pickM_mem h).1
    · exact (List.mem_filter.1 h).1
  refine ⟨g.below, g.ext, g.fresh, g.cell, fun k o h => g.own k o (hin _ h), ?_, fun x y hx hy => g.apart x y (hin x hx) (hin y hy)⟩
  rw [List.pairwise_append]
  refine ⟨pickM_keys hT, g.keys.sublist List.filter_sublist, fun x hx y hy => ?_⟩
  have h1 := (pickM_mem hx).2
  have h2 := (List.mem_filter.1 hy).2
  intro e
  rw [← e] at h2
  simp [h1] at h2

theorem Mem.get_pick (m : Mem) (T : List Nat) (k : Nat) : Mem.get (pickM m T) k = if k ∈ T then m.get k else none := by
  induction T with
  | nil => simp [pickM, Mem.get]
  | cons j r ih =>
    unfold pickM at ih ⊢
    simp only [List.filterMap_cons]
    by_cases hj : j = k
    · subst hj
      cases hg : m.get j with
      | none => simp only [Option.map_none, ih, hg]; simp
      | some o => simp only [Option.map_some, Mem.get]; simp
    · have hj' : (j == k) = false := by simpa using hj
      cases hg : m.get j with
      | none => simp only [Option.map_none, ih]; simp [Ne.symm hj]
      | some o => simp only [Option.map_some, Mem.get, hj', Bool.false_eq_true, if_false, ih]; simp [Ne.symm hj]

theorem Mem.get_cut (m : Mem) (T : List Nat) (k : Nat) : Mem.get (pickM m T ++ dropM m T) k = m.get k := by
  rw [Mem.get_append, Mem.get_pick, Mem.get_drop]
  by_cases hk : k ∈ T <;> simp [hk]

/-- Another list with the same entries. -/
theorem Good.alike {C : Ctx} {m m' : Mem} {E : Env} {H : HV} {w : World} (g : Good C m E H w) (h : ∀ k, m.get k = m'.get k) (hk : m'.Pairwise fun x y => x.1 ≠ y.1) : Good C m' E H w := by
  have hin : ∀ x, x ∈ m' → x ∈ m := by
    intro x hx
    have := Mem.get_of_mem hk (k := x.1) (o := x.2) hx
    rw [← h] at this
    exact Mem.get_mem this
  exact ⟨g.below, g.ext, g.fresh, g.cell, fun k o h => g.own k o (hin _ h), hk, fun x y hx hy => g.apart x y (hin x hx) (hin y hy)⟩

/-- How a guard stands: it lets run, it does not (what was assumed for that), it has to be known first. -/
inductive GD where
  | yes (ps : List Prop)
  | no (ps : List Prop)
  | ask (t : Nat) (b : Bool)
  | bad

def decOf : List (Nat × Bool) → Nat → Option Bool
  | [], _ => none
  | (j, b) :: r, t => if j == t then some b else decOf r t

def guardD (dec : List (Nat × Bool)) (ops : Array Oper) (o : Oper) (tmps : List SV) : GD :=
  match o.guard with
  | none => .yes []
  | some (j, want) =>
    match (ops[j]?).bind (·.dst) with
    | none => .bad
    | some t => match tmps[t]? with
      | some (.lb b) => if b == want then .yes [] else .no []
      | some (.bool b) => match decOf dec t with
        | some d => if d == want then .yes [b = d] else .no [b = d]
        | none => .ask t b
      | some .undef => .no []
      | _ => .bad

theorem guardD_spec {E : Env} {dec : List (Nat × Bool)} {ops : Array Oper} {o : Oper} {tmps : List SV} {ps : List Prop} (hp : ∀ p, p ∈ ps → p) :
    (guardD dec ops o tmps = .yes ps → Region.wanted o (yielded ops (SV.denL E tmps).toArray) = true) ∧
    (guardD dec ops o tmps = .no ps → Region.wanted o (yielded ops (SV.denL E tmps).toArray) = false) := by
  unfold guardD Region.wanted
  cases hg : o.guard with
  | none => simp
  | some x =>
    obtain ⟨j, want⟩ := x
    simp only
    cases hd : (ops[j]?).bind (·.dst) with
    | none => simp
    | some t =>
      simp only [yielded, hd, Option.bind_some]
      have e : ((SV.denL E tmps).toArray)[t]? = (tmps[t]?).map (SV.den E) := by simp [SV.denL_eq]
      rw [e]
      cases ht : tmps[t]? with
      | none => simp
      | some v =>
        cases v <;> simp [SV.den, Go.undef]
        case lb b => cases b <;> cases want <;> simp
        case bool b =>
          cases hdec : decOf dec t with
          | none => simp
          | some d =>
            constructor
            · intro h
              simp only at h
              split at h
              · rename_i hdw
                cases h
                have := hp _ (List.mem_singleton.2 rfl)
                rw [this, hdw]
              · cases h
            · intro h
              simp only at h
              split at h
              · cases h
              · rename_i hdw
                cases h
                have := hp _ (List.mem_singleton.2 rfl)
                rw [this]; exact hdw

/-- What an operation in its turn comes to. 'T': the keys that it looks at; 'out': what the entries there have become (none: it changes nothing). -/
structure Eff where
  ps : List Prop
  v : SV
  T : List Nat
  out : Option Mem
  ins : Option (Nat × IntKind × Int × SV)
  st : Option (Nat × Nat × List SV) := none
  ld : Option (Nat × Nat × Nat) := none

inductive StepR where
  | ok (e : Eff)
  | ask (t : Nat) (b : Bool)
  | bad

theorem addN_nodup {x : Nat} {l : List Nat} (h : l.Nodup) : (addN x l).Nodup := by
  unfold addN
  split
  · exact h
  · rename_i hc; exact List.nodup_cons.2 ⟨by simpa using hc, h⟩

theorem addNs_nodup : ∀ {xs l : List Nat}, l.Nodup → (addNs xs l).Nodup
  | [], _, h => h
  | x :: r, l, h => by
    show (addN x (addNs r l)).Nodup
    exact addN_nodup (addNs_nodup h)

/-- Operations that do not look into memory. -/
def memless : Op → Bool
  | .move _ => true
  | .assign _ => true
  | .build .. => true
  | .nilCheck _ => true
  | .unOp .. => true
  | .extract .. => true
  | .fieldAddr .. => true
  | .makeFunc .. => true
  | _ => false

def keysOp (tmps : List SV) (op : Op) : List Nat :=
  match memless op with
  | true => []
  | false => addNs (SV.keysL (op.operands.toList.map (evS tmps))) []

theorem keysOp_nodup (tmps : List SV) (op : Op) : (keysOp tmps op).Nodup := by
  unfold keysOp
  split
  · exact List.nodup_nil
  · exact addNs_nodup List.nodup_nil

section
variable (P : Program) (cs : Ctrs) (ops : Array Oper) (depth : Nat)

/-- What an operation leaves: the memory. -/
def outS (x : Option (List Prop × SV × Mem)) : Option (List Prop × SV × Option Mem) :=
  match x with
  | some (ps, v, m') => some (ps, v, some m')
  | none => none

/-- What a call leaves: nothing, if nothing was there that could be published, and nothing is added. -/
def outC (m : Mem) (x : Option (List Prop × SV × Mem)) : Option (List Prop × SV × Option Mem) :=
  match x with
  | some (ps, v, m') => match roM m && keysEq m' m with
    | true => some (ps, v, none)
    | false => some (ps, v, some m')
  | none => none

def runOp (tmps : List SV) (key : Nat) (hs : Nat → D) (op : Op) (m : Mem) : Option (List Prop × SV × Option Mem) :=
  match quickOp op with
  | true => match opr P (evS tmps) m 0 op with
    | .val ps v _ => some (ps, v, none)
    | _ => none
  | false => match op with
      | .call cl => match calleeOf (evS tmps) cl.callee with
        | some (f, first, captured) => match cs.find f with
          | some ctr => outC m (outOf (ctr (first ++ cl.args.toList.map (evS tmps) ++ captured) key m) hs)
          | none => none
        | none => outS (outOf (opr P (evS tmps) m key op) hs)
      | _ => outS (outOf (opr P (evS tmps) m key op) hs)

def pickD (dec : List (Nat × Bool)) (tmps : List SV) (t : Nat) (x y : Operand) (ps : List Prop) : StepR :=
  match tmps[t]? with
  | some (.lb d) => .ok ⟨ps, if d then evS tmps x else evS tmps y, [], none, none, none, none⟩
  | some (.bool b) => match decOf dec t with
    | some d => .ok ⟨ps ++ [b = d], if d then evS tmps x else evS tmps y, [], none, none, none, none⟩
    | none => .ask t b
  | _ => .bad

/-- What a map holds at a key: by what was assumed. -/
def lookD (dec : List (Nat × Bool)) (base : Nat) (T : List Nat) (d : SV) : Nat → List (Bool × SV) → List Prop → StepR
  | _, [], ps => .ok ⟨ps, d, T, none, none, none, none⟩
  | j, (b, v) :: r, ps => match decOf dec (base + j) with
    | some true => .ok ⟨ps ++ [b = true], v, T, none, none, none, none⟩
    | some false => lookD dec base T d (j + 1) r (ps ++ [b = false])
    | none => .ask (base + j) b

def stepR (dec : List (Nat × Bool)) (hs : Nat → Nat → D) (s : List SV × Mem) (i : Nat) : StepR :=
  match ops[i]? with
  | none => .bad
  | some o =>
    match guardD dec ops o s.1 with
    | .bad => .bad
    | .ask t b => .ask t b
    | .no ps => .ok ⟨ps, .undef, [], none, none, none, none⟩
    | .yes ps =>
      match o.op with
      | .pick (.tmp t) x y => pickD dec s.1 t x y ps
      | .lookup t x j ok => match lookR P (pickM s.2 (keysOp s.1 (.lookup t x j ok))) t (evS s.1 x) (evS s.1 j) ok with
        | some (l, d) => lookD dec (1000000 + 100 * i) (keysOp s.1 (.lookup t x j ok)) d 0 l ps
        | none => .bad
      | .store t a x => match evS s.1 a with
        | .ptr K off => match (evS s.1 x).cells?, sizeT P t, s.2.get K with
          | some vs, some n, some (.cells _ cs) => if vs.length = n ∧ off + n ≤ cs.length ∧ vs.all SV.one = true then .ok ⟨ps, .undef, [K], none, none, some (K, off, vs), none⟩ else .bad
          | _, _, _ => .bad
        | _ => match runOp P cs s.1 (dstKey depth o.dst) (hs i) (.store t a x) (pickM s.2 (keysOp s.1 (.store t a x))) with
          | some (qs, v, out) => .ok ⟨ps ++ qs, v, keysOp s.1 (.store t a x), out, none, none, none⟩
          | none => .bad
      | .load t a => match runOp P cs s.1 (dstKey depth o.dst) (hs i) (.load t a) (pickM s.2 (keysOp s.1 (.load t a))) with
        | some (qs, v, none) => .ok ⟨ps ++ qs, v, keysOp s.1 (.load t a), none, none, none, match evS s.1 a, sizeT P t with | .ptr K off, some n => some (K, off, n) | _, _ => none⟩
        | _ => .bad
      | .insert t x j v => match insOk P s.2 t (evS s.1 x) (evS s.1 j) with
        | some (K, k, n) => .ok ⟨ps, .undef, [K], none, some (K, k, n, evS s.1 v), none, none⟩
        | none => .bad
      | op => match runOp P cs s.1 (dstKey depth o.dst) (hs i) op (pickM s.2 (keysOp s.1 op)) with
        | some (qs, v, out) => .ok ⟨ps ++ qs, v, keysOp s.1 op, out, none, none, none⟩
        | none => .bad

def dstOf (i : Nat) : Option Tmp := (ops[i]?).bind (·.dst)

def updC (off : Nat) (vs : List SV) : OBlk → OBlk
  | .cells t cs => .cells t (cs.take off ++ vs ++ cs.drop (off + vs.length))
  | o => o

/-- What an operation leaves at a key. -/
def Eff.at (e : Eff) (k : Nat) (o : Option OBlk) : Option OBlk :=
  match e.st with
  | some (K, off, vs) => if k = K then o.map (updC off vs) else o
  | none => match e.ins with
    | some (K, kd, n, v) => if k = K then o.map (insO kd n v) else o
    | none => match e.out with
      | none => o
      | some m => (Mem.get m k).or (if k ∈ e.T then none else o)

def Eff.mem (e : Eff) (m : Mem) : Mem :=
  match e.st with
  | some (K, off, vs) => match m.get K with
    | some o => m.set K (updC off vs o)
    | none => m
  | none => match e.ins with
    | some (K, kd, n, v) => match m.get K with
      | some o => m.set K (insO kd n v o)
      | none => m
    | none => match e.out with
      | none => m
      | some m' => m' ++ dropM m e.T

def applyR (s : List SV × Mem) (i : Nat) (e : Eff) : List SV × Mem := (putS s.1 (dstOf ops i) e.v, e.mem s.2)
end

theorem Mem.get_set {m : Mem} {K : Nat} {o o' : OBlk} (hg : m.get K = some o) (k : Nat) : (m.set K o').get k = if k = K then some o' else m.get k := by
  induction m with
  | nil => cases hg
  | cons x r ih =>
    obtain ⟨j, p⟩ := x
    simp only [Mem.get] at hg
    simp only [Mem.set]
    by_cases hj : j = K
    · subst hj
      simp only [beq_self_eq_true, if_true, Mem.get]
      by_cases hk : k = j
      · simp [hk]
      · simp [hk, Ne.symm hk]
    · have hj' : (j == K) = false := by simpa using hj
      simp only [hj', Bool.false_eq_true, if_false] at hg ⊢
      simp only [Mem.get]
      by_cases hk : j = k
      · subst hk; simp [hj]
      · have hk' : (j == k) = false := by simpa using hk
        simp only [hk', Bool.false_eq_true, if_false]
        exact ih hg

theorem Eff.mem_get (e : Eff) (m : Mem) (k : Nat) : (e.mem m).get k = e.at k (m.get k) := by
  unfold Eff.mem Eff.at
  have upd : ∀ (K : Nat) (f : OBlk → OBlk), (match m.get K with | some o => m.set K (f o) | none => m).get k = if k = K then (m.get k).map f else m.get k := by
    intro K f
    cases hg : m.get K with
    | none =>
      by_cases hk : k = K
      · subst hk; simp [hg]
      · simp [hk]
    | some o =>
      simp only [Mem.get_set hg]
      by_cases hk : k = K
      · subst hk; simp [hg]
      · simp [hk]
  cases hs : e.st with
  | some x =>
    obtain ⟨K, off, vs⟩ := x
    exact upd K (updC off vs)
  | none =>
    simp only
    cases hi : e.ins with
    | some x =>
      obtain ⟨K, kd, n, v⟩ := x
      exact upd K (insO kd n v)
    | none =>
      simp only
      cases ho : e.out with
      | none => rfl
      | some m' => simp only [Mem.get_append, Mem.get_drop]

theorem lookD_ok {dec : List (Nat × Bool)} {base : Nat} {T : List Nat} {d : SV} : ∀ {l : List (Bool × SV)} {j : Nat} {ps : List Prop} {e : Eff}, lookD dec base T d j l ps = .ok e →
    (∀ p, p ∈ ps → p ∈ e.ps) ∧ e.T = T ∧ (e.out = none ∧ e.ins = none ∧ e.st = none) ∧ ((∀ p, p ∈ e.ps → p) → e.v = pickA d l)
  | [], _, _, _, h => by cases h; exact ⟨fun _ h => h, rfl, ⟨rfl, rfl, rfl⟩, fun _ => rfl⟩
  | (b, v) :: r, j, ps, e, h => by
    simp only [lookD] at h
    split at h
    · cases h
      refine ⟨fun p hp => List.mem_append_left _ hp, rfl, ⟨rfl, rfl, rfl⟩, fun hp => ?_⟩
      have : b = true := hp _ (by simp)
      subst this; rfl
    · obtain ⟨h1, h2, h3, h4⟩ := lookD_ok h
      refine ⟨fun p hp => h1 p (List.mem_append_left _ hp), h2, h3, fun hp => ?_⟩
      have : b = false := hp _ (h1 _ (by simp))
      subst this
      exact h4 hp
    · cases h

theorem lookD_ld {dec : List (Nat × Bool)} {base : Nat} {T : List Nat} {d : SV} : ∀ {l : List (Bool × SV)} {j : Nat} {ps : List Prop} {e : Eff}, lookD dec base T d j l ps = .ok e → e.ld = none
  | [], _, _, _, h => by cases h; rfl
  | (b, v) :: r, j, ps, e, h => by
    simp only [lookD] at h
    split at h
    · cases h; rfl
    · exact lookD_ld h
    · cases h

theorem lookD_det {dec dec' : List (Nat × Bool)} {base : Nat} {T : List Nat} {d : SV} : ∀ {l : List (Bool × SV)} {j : Nat} {ps : List Prop} {e e' : Eff}, lookD dec base T d j l ps = .ok e → lookD dec' base T d j l ps = .ok e' →
    (∀ p, p ∈ e.ps → p) → (∀ p, p ∈ e'.ps → p) → e = e'
  | [], _, _, _, _, h, h', _, _ => by cases h; cases h'; rfl
  | (b, v) :: r, j, ps, e, e', h, h', hp, hp' => by
    simp only [lookD] at h h'
    split at h
    · cases h
      have hb : b = true := hp _ (by simp)
      split at h'
      · cases h'; rfl
      · have := hp' _ ((lookD_ok h').1 (b = false) (by simp)); rw [hb] at this; cases this
      · cases h'
    · have hb : b = false := hp _ ((lookD_ok h).1 (b = false) (by simp))
      split at h'
      · cases h'
        have : b = true := hp' _ (by simp)
        rw [hb] at this; cases this
      · exact lookD_det h h' hp hp'
      · cases h'
    · cases h

/-- The keys that an operation changes. -/
def Eff.wr (e : Eff) : List Nat :=
  match e.st with
  | some (K, _) => [K]
  | none => match e.ins with
    | some (K, _) => [K]
    | none => match e.out with
      | none => []
      | some m => m.map (·.1) ++ e.T

def Eff.named (e : Eff) : List Nat :=
  e.v.keys ++ (match e.out with
    | none => []
    | some m => Mem.named m) ++ (match e.ins with
    | none => []
    | some (K, _, _, v) => K :: v.keys) ++ match e.st with
    | none => []
    | some (K, _, vs) => K :: SV.keysL vs

theorem Eff.at_other {e : Eff} {k : Nat} (h : k ∉ e.wr) (o : Option OBlk) : e.at k o = o := by
  unfold Eff.at
  unfold Eff.wr at h
  cases hs : e.st with
  | some x =>
    obtain ⟨K, off, vs⟩ := x
    simp only [hs, List.mem_singleton] at h
    simp [h]
  | none =>
    simp only [hs] at h
    cases hi : e.ins with
    | some x =>
      obtain ⟨K, kd, n, v⟩ := x
      simp only [hi, List.mem_singleton] at h
      simp [h]
    | none =>
      simp only [hi] at h
      cases ho : e.out with
      | none => rfl
      | some m =>
        simp only [ho, List.mem_append, not_or] at h
        simp only [Mem.get_none h.1, h.2, if_false, Option.none_or]

/-- Two states with the same slots and the same entries. -/
def Alike (s t : List SV × Mem) : Prop := s.1 = t.1 ∧ ∀ k, s.2.get k = t.2.get k
theorem Alike.refl (s : List SV × Mem) : Alike s s := ⟨rfl, fun _ => rfl⟩
theorem Alike.symm {s t : List SV × Mem} (h : Alike s t) : Alike t s := ⟨h.1.symm, fun k => (h.2 k).symm⟩
theorem Alike.trans {s t u : List SV × Mem} (h : Alike s t) (h' : Alike t u) : Alike s u := ⟨h.1.trans h'.1, fun k => (h.2 k).trans (h'.2 k)⟩

section
variable {P : Program} {cs : Ctrs} {ops : Array Oper} {depth : Nat}

theorem applyR_alike {s t : List SV × Mem} {i : Nat} {e : Eff} (h : Alike s t) : Alike (applyR ops s i e) (applyR ops t i e) := by
  refine ⟨by simp only [applyR, h.1], fun k => ?_⟩
  simp only [applyR, Eff.mem_get, h.2 k]

theorem opr_congr {ev ev' : Operand → SV} {op : Op} (h : ∀ x, x ∈ op.operands → ev x = ev' x) (m : Mem) (key : Nat) : opr P ev m key op = opr P ev' m key op := by
  have pairs : ∀ ps : Array (Nat × Operand), (∀ x, x ∈ (ps.toList.map (·.2)).toArray → ev x = ev' x) →
      (ps.toList.map fun x => (x.1, ev x.2)) = ps.toList.map fun x => (x.1, ev' x.2) := fun ps hp =>
    List.map_congr_left fun p hm => by rw [hp p.2 (by simp; exact ⟨p.1, by simpa using hm⟩)]
  have vals : ∀ ps : Array (Nat × Operand), (∀ x, x ∈ (ps.toList.map (·.2)).toArray → ev x = ev' x) →
      (ps.toList.map fun x => ev x.2) = ps.toList.map fun x => ev' x.2 := fun ps hp =>
    List.map_congr_left fun p hm => by rw [hp p.2 (by simp; exact ⟨p.1, by simpa using hm⟩)]
  cases op <;> simp only [Op.operands] at h <;> simp only [opr]
  case build t ps => rw [pairs ps h]
  case buildSlice t n ps => rw [pairs ps h, vals ps h]
  case makeFunc fn first captured =>
    cases fn with
    | func f =>
      have h1 : first.toList.map ev = first.toList.map ev' := List.map_congr_left fun x hx => h x (by simp only [Array.mem_append]; left; simpa using hx)
      have h2 : captured.toList.map ev = captured.toList.map ev' := List.map_congr_left fun x hx => h x (by simp only [Array.mem_append]; right; simpa using hx)
      simp only [h1, h2]
    | _ => rfl
  case call c =>
    obtain ⟨callee, args, tys⟩ := c
    simp only [Call.operands] at h
    cases callee with
    | builtin b =>
      have ha : ∀ x, x ∈ args.toList → ev x = ev' x := fun x hx => h x (by simpa using hx)
      simp only
      unfold callB
      split
      · rename_i x t he _; rw [he] at ha; rw [ha x (by simp)]
      · rename_i s x t t' he _; rw [he] at ha; unfold appR; rw [ha s (by simp), ha x (by simp)]
      · rename_i _ x y he; rw [he] at ha; rw [ha x (by simp), ha y (by simp)]
      · rename_i _ x y he; rw [he] at ha; rw [ha x (by simp), ha y (by simp)]
      · rfl
    | _ => rfl
  case makeMap t r => cases r <;> rfl
  case slice t x lo hi mx =>
    have hx : ev x = ev' x := h x (by simp)
    have h1 : lo.map ev = lo.map ev' := by cases lo with | none => rfl | some y => simp [h y (by simp)]
    have h2 : hi.map ev = hi.map ev' := by cases hi with | none => rfl | some y => simp [h y (by simp)]
    have h3 : mx.map ev = mx.map ev' := by cases mx with | none => rfl | some y => simp [h y (by simp)]
    rw [hx, h1, h2, h3]
  all_goals (first | rfl | (simp_all; done))

theorem evS_congr {t t' : List SV} {x : Operand} (h : ∀ k, x = .tmp k → t[k]? = t'[k]?) : evS t x = evS t' x := by
  cases x with
  | tmp k => simp only [evS, List.getD_eq_getElem?_getD, h k rfl]
  | _ => rfl
end
end Sx
end
