/-
  The abstract machine: the operations on maps.
-/
import Derived.Test.YtochkdifpgelmaaABMap
set_option linter.unusedVariables false
set_option linter.unusedSimpArgs false
namespace Go.Ab

section
variable {n0 : Nat} {w0 : World} {ρ ρ' : Ren} {h h' : Heap} {w w' : World} {P : Program}

theorem mapTypes_eq {t : TypeId} {kt et : TypeId} (e : mapTypes P t = some (kt, et)) : P.underlying t = some (.map kt et) := by
  unfold mapTypes at e
  split at e
  · rename_i k v hu; cases e; exact hu
  · cases e

theorem getObj_map {r : Nat} {es : Array MapEntry} {clock : Nat} (hb : w.heap[r]? = some (.map es clock)) : (getObj r).run P w = .ok (.map es clock) w := by
  simp [getObj, Sem.run, hb]
theorem setObj_map {r : Nat} {es : Array MapEntry} {clock : Nat} (hb : w.heap[r]? = some (.map es clock)) (o : Obj) : (setObj r o).run P w = .ok () (setBlk w r o) := by
  simp [setObj, Sem.run, hb, setBlk]

theorem lookup_ok {t : TypeId} {m k v : AVal} {m' k' : Value} {ok : Bool} (e : aLookup P h t m k ok = some v) (hm : VR n0 ρ m m') (hk : VR n0 ρ k k') (H : HR n0 w0 ρ h w) :
    ∃ v', (Instr.lookup t m' k' ok).run P w = .ok v' w ∧ VR n0 ρ v v' := by
  unfold aLookup at e
  split at e
  · rename_i kt et b kv ht hkv
    have hu := mapTypes_eq ht
    have := toV_eq hkv hk
    subst this
    split at e
    · rename_i cs hcs
      obtain ⟨r, es, rfl, M⟩ := map_at H hm hcs
      split at e
      · rename_i i hf
        obtain ⟨c1, q, c2, c3⟩ := map_find M hf w
        rcases c3 with ⟨z, _⟩ | ⟨i', v1, x, hi, rfl, hx, hv1⟩
        · cases z
        cases hi
        split at e
        · rename_i u hcu
          cases e
          obtain ⟨_, f2⟩ := mflat_at es.toList i x (by simpa using hx)
          obtain ⟨u', g1, g2⟩ := M.vals.get hcu
          rw [f2] at g1; cases g1
          subst hv1
          refine ⟨if ok then .tuple #[x.val, .bool true] else x.val, ?_, ?_⟩
          · simp only [Instr.lookup, Sem.run_bind, run_under hu, Result.andThen_ok, getObj_map M.obj, Sem.run_pure, c1, c2]
          · cases ok with
            | true => exact .tup (.cons g2 (.cons (.bool true) .nil))
            | false => exact g2
        · cases e
      · rename_i hf
        obtain ⟨c1, q, c2, c3⟩ := map_find M hf w
        rcases c3 with ⟨_, rfl⟩ | ⟨i', _, _, hi, _⟩
        · split at e
          · rename_i z hz
            cases e
            obtain ⟨z', r1, r2⟩ := run_zero hz w
            refine ⟨if ok then .tuple #[z', .bool false] else z', ?_, ?_⟩
            · simp only [Instr.lookup, Sem.run_bind, run_under hu, Result.andThen_ok, getObj_map M.obj, Sem.run_pure, c1, c2, r1]
            · have : VR n0 ρ z z' := by rw [r2]; exact ofV0 z'
              cases ok with
              | true => exact .tup (.cons this (.cons (.bool false) .nil))
              | false => exact this
          · cases e
        · cases hi
      · cases e
    · cases e
  · cases e

theorem lenM_ok {t : TypeId} {m v : AVal} {m' : Value} (ht : isMapT P t = true) (e : aLenM h m = some v) (hm : VR n0 ρ m m') (H : HR n0 w0 ρ h w) (argTypes : Array TypeId) (ty : TypeId) (ha : argTypes[0]? = some t) :
    ∃ v', (Builtin.len_ argTypes ty #[m']).run P w = .ok v' w ∧ VR n0 ρ v v' := by
  unfold aLenM at e
  split at e
  · rename_i b
    split at e
    · rename_i cs hcs
      cases e
      obtain ⟨r, es, rfl, M⟩ := map_at H hm hcs
      unfold isMapT at ht
      split at ht
      · rename_i k v hu
        have hl := M.vals.length
        rw [mflat_len] at hl
        have hn : cs.length / 2 = es.size := by rw [hl]; simp
        refine ⟨goInt es.size, ?_, ?_⟩
        · simp [Builtin.len_, ha, run_under hu, getObj_map M.obj]
        · rw [hn]; exact .int _ _
      · cases ht
    · cases e
  · cases e

theorem makeMap_ok {t : TypeId} {v : AVal} (e : aMakeMap P h t = .val v h') (H : HR n0 w0 ρ h w) (hf : h.next < h'.next → ρ h.next = none) : Does n0 w0 P ρ h w (Instr.makeMap t none) v h' := by
  unfold aMakeMap at e
  split at e
  · cases e
    have hfr := hf (by rw [next_new']; omega)
    obtain ⟨a, b⟩ := H.allocM hfr
    have hn0 : n0 ≤ h.next := by have := H.hn; simp only [Heap.next]; omega
    refine ⟨_, _, .map (some w.heap.size), ?_, .mp (l := ⟨w.heap.size, 0, 0, true⟩) hn0 (if_pos rfl) rfl, a, b⟩
    simp [Instr.makeMap]
  · cases e

theorem VRs.set {cs : List AVal} {ds : List Value} (k : VRs n0 ρ cs ds) {v : AVal} {v' : Value} (hv : VR n0 ρ v v') (i : Nat) : VRs n0 ρ (cs.set i v) (ds.set i v') :=
  VRs.of_get (by simp [k.length]) fun j a b h1 h2 => by
    rw [List.getElem?_set] at h1 h2
    by_cases hj : i = j
    · subst hj
      rw [if_pos rfl] at h1 h2
      split at h1
      · split at h2
        · cases h1; cases h2; exact hv
        · cases h2
      · cases h1
    · rw [if_neg hj] at h1 h2
      obtain ⟨u, g1, g2⟩ := k.get h1
      rw [h2] at g1; cases g1
      exact g2

theorem mflat_modify : ∀ (es : List MapEntry) (i : Nat) (x : MapEntry) (f : MapEntry → MapEntry), es[i]? = some x → flat (es.modify i f) = ((flat es).set (2 * i) (f x).key).set (2 * i + 1) (f x).val
  | [], i, x, f, h => by simp at h
  | y :: r, 0, x, f, h => by simp at h; subst h; simp [flat]
  | y :: r, i + 1, x, f, h => by
    have ih := mflat_modify r i x f (by simpa using h)
    have e1 : flat (y :: r) = y.key :: y.val :: flat r := by simp [flat]
    have e2 : flat ((y :: r).modify (i + 1) f) = y.key :: y.val :: flat (r.modify i f) := by simp [flat]
    rw [e1, e2, ih, show 2 * (i + 1) = 2 * i + 1 + 1 by omega]
    simp

theorem mflat_push (es : List MapEntry) (x : MapEntry) : flat (es ++ [x]) = flat es ++ [x.key, x.val] := by simp [flat]

/-- The map's cells are others. -/
theorem MapAt.put {b r : Nat} {cs cs' : List AVal} {es es' : Array MapEntry} (M : MapAt n0 ρ h w b r cs es) (H : HR n0 w0 ρ h w) (hv : VRs n0 ρ cs' (flat es'.toList)) (hb : ∀ (i : Nat) (x : MapEntry), es'[i]? = some x → x.born = i) :
    HR n0 w0 ρ (h.putB b cs') (setBlk w r (.map es' es'.size)) ∧ St n0 ρ h w ρ (h.putB b cs') (setBlk w r (.map es' es'.size)) := by
  obtain ⟨l, g1, g2, rfl⟩ := M.loc
  exact H.putM (C' := (flat es'.toList).toArray) M.hb M.cls M.get g1 g2 (by simp) (by rw [hv.length]; simp) hb (at_list (by simpa using hv))

theorem born_modify {es : Array MapEntry} (hb : ∀ (i : Nat) (x : MapEntry), es[i]? = some x → x.born = i) (i : Nat) (f : MapEntry → MapEntry) (hf : ∀ x, (f x).born = x.born) : ∀ (j : Nat) (x : MapEntry), (es.modify i f)[j]? = some x → x.born = j := by
  intro j x hx
  rw [Array.getElem?_modify] at hx
  split at hx
  · cases he : es[j]? with
    | none => rw [he] at hx; cases hx
    | some y =>
      rw [he] at hx
      simp only [Option.map_some, Option.some.injEq] at hx
      rw [← hx, hf]; exact hb j y he
  · exact hb j x hx

theorem born_push {es : Array MapEntry} (hb : ∀ (i : Nat) (x : MapEntry), es[i]? = some x → x.born = i) (y : MapEntry) (hy : y.born = es.size) : ∀ (j : Nat) (x : MapEntry), (es.push y)[j]? = some x → x.born = j := by
  intro j x hx
  rw [Array.getElem?_push] at hx
  split at hx
  · rename_i k; cases hx; rw [hy, k]
  · exact hb j x hx

theorem stays {b r i : Nat} {cs : List AVal} {es : Array MapEntry} (M : MapAt n0 ρ h w b r cs es) {x : MapEntry} (hx : es[i]? = some x) {kv : Value} (e : keyStays cs i kv = true) : Instr.sameBits 10000 x.key kv = true := by
  unfold keyStays at e
  split at e
  · rename_i u hu
    split at e
    · rename_i uv huv
      obtain ⟨f1, _⟩ := mflat_at es.toList i x (by simpa using hx)
      obtain ⟨u', g1, g2⟩ := M.vals.get hu
      rw [f1] at g1; cases g1
      have := toV_eq huv g2
      rw [this]; exact e
    · cases e
  · cases e

theorem keyOk_run {kt : TypeId} {kv : Value} (e : keyOk P kt kv = true) (w : World) : (Instr.checkKey false 10000 kt kv).run P w = .ok () w := by
  unfold keyOk at e
  split at e
  · rename_i u hu; exact aPure_run hu w
  · cases e

theorem keyThatStays_run {a b : Value} (e : Instr.sameBits 10000 a b = true) (w : World) : (Instr.keyThatStays a b).run P w = .ok b w := by
  unfold Instr.keyThatStays
  rw [if_pos e]
  rfl

theorem mapUpdate_ok {t : TypeId} {m k v u : AVal} {m' k' v' : Value} (e : aMapUpdate P h t m k v = .val u h') (hm : VR n0 ρ m m') (hk : VR n0 ρ k k') (hv : VR n0 ρ v v') (H : HR n0 w0 ρ h w) :
    u = aUndef ∧ ∃ w', (Instr.mapUpdate t m' k' v').run P w = .ok () w' ∧ HR n0 w0 ρ h' w' ∧ St n0 ρ h w ρ h' w' := by
  unfold aMapUpdate at e
  split at e
  · rename_i kt et b kv ht hkv
    have hu := mapTypes_eq ht
    have := toV_eq hkv hk
    subst this
    split at e
    · rename_i cs hcs
      obtain ⟨r, es, rfl, M⟩ := map_at H hm hcs
      split at e
      · rename_i hko
        have c0 := keyOk_run hko w
        split at e
        · rename_i i hf
          obtain ⟨c1, q, c2, c3⟩ := map_find M hf w
          rcases c3 with ⟨z, _⟩ | ⟨i', v1, x, hi, rfl, hx, hv1⟩
          · cases z
          cases hi
          split at e
          · rename_i hst
            cases e
            have hsb := stays M hx hst
            obtain ⟨H2, S2⟩ := M.put (es' := es.modify i fun e => { e with key := k', val := v' }) H (cs' := (cs.set (2 * i) k).set (2 * i + 1) v) (by
              rw [Array.toList_modify, mflat_modify es.toList i x _ (by simpa using hx)]
              exact (M.vals.set hk _).set hv _) (born_modify M.born i _ fun _ => rfl)
            refine ⟨rfl, _, ?_, H2, S2⟩
            have hold : ((es[i]?).map (·.key)).getD k' = x.key := by rw [hx]; rfl
            simp only [Instr.mapUpdate, Sem.run_bind, run_under hu, Result.andThen_ok, getObj_map M.obj, c0, c2, hold, keyThatStays_run hsb, setObj_map M.obj, Array.size_modify]
          · cases e
        · rename_i hf
          obtain ⟨c1, q, c2, c3⟩ := map_find M hf w
          rcases c3 with ⟨_, rfl⟩ | ⟨i', _, _, hi, _⟩
          · cases e
            obtain ⟨H2, S2⟩ := M.put (es' := es.push { key := k', val := v', born := es.size }) H (cs' := cs ++ [k, v]) (by
              rw [Array.toList_push, mflat_push]
              exact M.vals.append (.cons hk (.cons hv .nil))) (born_push M.born _ rfl)
            refine ⟨rfl, _, ?_, H2, S2⟩
            simp only [Instr.mapUpdate, Sem.run_bind, run_under hu, Result.andThen_ok, getObj_map M.obj, c0, c2, setObj_map M.obj, Array.size_push]
          · cases hi
        · cases e
      · cases e
    · cases e
  · cases e

theorem mapEntry_ok {t : TypeId} {m k u : AVal} {m' k' : Value} (e : aMapEntry P h t m k = .val u h') (hm : VR n0 ρ m m') (hk : VR n0 ρ k k') (H : HR n0 w0 ρ h w) :
    Does n0 w0 P ρ h w (Instr.mapEntry t m' k') u h' := by
  unfold aMapEntry at e
  split at e
  · rename_i kt et b kv ht hkv
    have hu := mapTypes_eq ht
    have := toV_eq hkv hk
    subst this
    split at e
    · rename_i cs hcs
      obtain ⟨r, es, rfl, M⟩ := map_at H hm hcs
      split at e
      · rename_i hko
        have c0 := keyOk_run hko w
        split at e
        · rename_i i hf
          obtain ⟨c1, q, c2, c3⟩ := map_find M hf w
          rcases c3 with ⟨z, _⟩ | ⟨i', v1, x, hi, rfl, hx, hv1⟩
          · cases z
          cases hi
          split at e
          · rename_i v hcv
            split at e
            · rename_i hst
              cases e
              have hsb := stays M hx hst
              obtain ⟨_, f2⟩ := mflat_at es.toList i x (by simpa using hx)
              obtain ⟨v2, g1, g2⟩ := M.vals.get hcv
              rw [f2] at g1; cases g1
              have hlt : 2 * i + 1 < (flat es.toList).length := (List.getElem?_eq_some_iff.1 f2).1
              obtain ⟨H2, S2⟩ := M.put (es' := es.modify i fun e => { e with key := k' }) H (cs' := cs.set (2 * i) k) (by
                rw [Array.toList_modify, mflat_modify es.toList i x _ (by simpa using hx)]
                have hsame : ((flat es.toList).set (2 * i) k').set (2 * i + 1) x.val = (flat es.toList).set (2 * i) k' := by
                  apply List.ext_getElem?
                  intro j
                  rw [List.getElem?_set]
                  by_cases hj : 2 * i + 1 = j
                  · subst hj
                    rw [if_pos rfl, List.length_set, if_pos hlt, List.getElem?_set, if_neg (by omega), f2]
                  · rw [if_neg hj]
                show VRs n0 ρ (cs.set (2 * i) k) (((flat es.toList).set (2 * i) k').set (2 * i + 1) x.val)
                rw [hsame]
                exact M.vals.set hk _) (born_modify M.born i _ fun _ => rfl)
              have hold : ((es[i]?).map (·.key)).getD k' = x.key := by rw [hx]; rfl
              have hborn : (Option.map (fun x => (x.born : Int)) es[i]?).getD 0 = (i : Int) := by rw [hx]; simp [M.born i x hx]
              refine ⟨ρ, _, .tuple #[x.val, goInt i], ?_, .tup (.cons g2 (.cons (.int _ _) .nil)), H2, S2⟩
              subst hv1
              simp only [Instr.mapEntry, Sem.run_bind, run_under hu, Result.andThen_ok, getObj_map M.obj, c0, c2, hold, hborn, keyThatStays_run hsb, setObj_map M.obj, Array.size_modify, Sem.run_pure]
            · cases e
          · cases e
        · rename_i hf
          obtain ⟨c1, q, c2, c3⟩ := map_find M hf w
          rcases c3 with ⟨_, rfl⟩ | ⟨i', _, _, hi, _⟩
          · split at e
            · rename_i z hz
              cases e
              obtain ⟨z', r1, r2⟩ := run_zero hz w
              have hzv : VR n0 ρ z z' := by rw [r2]; exact ofV0 z'
              obtain ⟨H2, S2⟩ := M.put (es' := es.push { key := k', val := z', born := es.size }) H (cs' := cs ++ [k, z]) (by
                rw [Array.toList_push, mflat_push]
                exact M.vals.append (.cons hk (.cons hzv .nil))) (born_push M.born _ rfl)
              have hl := M.vals.length
              rw [mflat_len] at hl
              have hn : cs.length / 2 = es.size := by rw [hl]; simp
              refine ⟨ρ, _, .tuple #[z', goInt es.size], ?_, ?_, H2, S2⟩
              · simp only [Instr.mapEntry, Sem.run_bind, run_under hu, Result.andThen_ok, getObj_map M.obj, c0, c2, r1, setObj_map M.obj, Array.size_push, Sem.run_pure]
              · rw [hn]
                exact .tup (.cons hzv (.cons (.int _ _) .nil))
            · cases e
          · cases hi
        · cases e
      · cases e
    · cases e
  · cases e

theorem entryStore_ok {t : TypeId} {m s v u : AVal} {m' s' v' : Value} (e : aEntryStore h m s v = .val u h') (hm : VR n0 ρ m m') (hs : VR n0 ρ s s') (hv : VR n0 ρ v v') (H : HR n0 w0 ρ h w) :
    u = aUndef ∧ ∃ w', (Instr.entryStore t m' s' v').run P w = .ok () w' ∧ HR n0 w0 ρ h' w' ∧ St n0 ρ h w ρ h' w' := by
  unfold aEntryStore at e
  split at e
  · rename_i b n
    split at e
    · rename_i cs hcs
      obtain ⟨r, es, rfl, M⟩ := map_at H hm hcs
      split at e
      · rename_i hn
        cases e
        cases hs
        have hl := M.vals.length
        rw [mflat_len] at hl
        have hlt : n.toNat < es.size := by have : es.toList.length = es.size := by simp
                                           omega
        have hx : es[n.toNat]? = some es[n.toNat] := by simp [hlt]
        obtain ⟨f1, _⟩ := mflat_at es.toList n.toNat es[n.toNat] (by simp [hlt])
        have hlt1 : 2 * n.toNat < (flat es.toList).length := (List.getElem?_eq_some_iff.1 f1).1
        obtain ⟨H2, S2⟩ := M.put (es' := es.modify n.toNat fun e => { e with val := v' }) H (cs' := cs.set (2 * n.toNat + 1) v) (by
          rw [Array.toList_modify, mflat_modify es.toList n.toNat es[n.toNat] _ (by simp [hlt])]
          have hsame : (flat es.toList).set (2 * n.toNat) es[n.toNat].key = flat es.toList := by
            apply List.ext_getElem?
            intro j
            rw [List.getElem?_set]
            by_cases hj : 2 * n.toNat = j
            · subst hj
              rw [if_pos rfl, if_pos hlt1, f1]
            · rw [if_neg hj]
          show VRs n0 ρ (cs.set (2 * n.toNat + 1) v) (((flat es.toList).set (2 * n.toNat) es[n.toNat].key).set (2 * n.toNat + 1) v')
          rw [hsame]
          exact M.vals.set hv _) (born_modify M.born _ _ fun _ => rfl)
        have hfind : es.findIdx? (fun e => (e.born : Int) == n) = some n.toNat := by
          rw [Array.findIdx?_eq_some_iff_getElem]
          refine ⟨hlt, ?_, fun j hj => ?_⟩
          · have := M.born n.toNat es[n.toNat] hx
            simp [this]; omega
          · have hjl : j < es.size := by omega
            have := M.born j es[j] (by simp [hjl])
            simp [this]; omega
        refine ⟨rfl, _, ?_, H2, S2⟩
        have hai : (asInt (.int .i64 n)).run P w = .ok n w := rfl
        simp only [Instr.entryStore, Sem.run_bind, Result.andThen_ok, getObj_map M.obj, hai, Sem.run_pure, hfind, setObj_map M.obj, Array.size_modify]
      · cases e
    · cases e
  · cases e

end
end Go.Ab
