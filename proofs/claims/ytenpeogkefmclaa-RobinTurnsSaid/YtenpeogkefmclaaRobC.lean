/- Robin: Add, Drop, Yield, Run. Conditions: none. -/
import Derived.Test.YtenpeogkefmclaaRobB

set_option linter.all false
set_option linter.deprecated false
namespace Go.Proofs.Ytenpeogkefmclaa
open Go.Sep
variable [B0 : Base]

def inE (i : Int) : List Value := [int i]
@[simp] theorem inE_one (i : Int) : (inE i).all Value.oneCell' = true := rfl
@[simp] theorem inE_len (i : Int) : (inE i).length = 1 := rfl

/-- What Add makes of the row, or why it does not. -/
def addGo (l : List Th) : List Int → Except Int (List Th)
  | [] => .ok l
  | id :: ids => if id < 0 then .error 1 else if (findIx l id).isSome then .error 15 else if 64 ≤ l.length then .error 13 else addGo (l ++ [⟨id, 0⟩]) ids
def addM (c : Cls) (ids : List Int) : Cls × Int := match addGo c.l ids with
  | .ok l => (⟨c.q, l⟩, 0)
  | .error e => (c, e)

theorem ixI_some {l : List Th} {id : Int} (h : (findIx l id).isSome = true) : 0 ≤ ixI (findIx l id) := by
  cases hf : findIx l id with
  | none => rw [hf] at h; cases h
  | some k => simp [ixI]
theorem ixI_none {l : List Th} {id : Int} (h : ¬ (findIx l id).isSome = true) : ixI (findIx l id) < 0 := by
  cases hf : findIx l id with
  | none => simp [ixI]
  | some k => rw [hf] at h; exact absurd rfl h

set_option maxHeartbeats 4000000 in
theorem Add_ok (p : Nat) (c : Cls) (u : Value) (ids : List Int) (R : List HP) (hsrc : Src R u 1 (ids.map inE)) (hu : IsSl u ids.length) :
    Called Try.prog 10 [ptr p, u] (cls p c :: R) (is (int (addM c ids).2) (cls p (addM c ids).1 :: R)) := by
  refine Fn2 Try.func10 rfl Try.ntmps10 rfl ?_
  refine C_cls fun v ho hv => ?_
  obtain ⟨ho1, ho2, ho3, ho4⟩ := ho
  have hul := hu.len
  (repeat' first | refine stp ?_ | intro v' hv' | intro (b : Nat) | (apply w_cq0; rfl; rfl; exact Called.at2 (by (focus ((repeat (first | refine Rep2.here (by (focus ((repeat (first | exact Rep.here | apply Rep.there)); done))) | refine Rep2.other (by (focus ((repeat (first | exact Rep.here | apply Rep.there)); done))) | apply Rep2.there)); done))) (find_ok _ _ _ _ _ (by assumption))) | (apply w_cq0; rfl; rfl; exact Called.at2 (by (focus ((repeat (first | refine Rep2.here (by (focus ((repeat (first | exact Rep.here | apply Rep.there)); done))) | refine Rep2.other (by (focus ((repeat (first | exact Rep.here | apply Rep.there)); done))) | apply Rep2.there)); done))) (place_none _ _ _ _ _ (by assumption) (by assumption))) | (apply w_cq0; rfl; rfl; exact Called.at2 (by (focus ((repeat (first | refine Rep2.here (by (focus ((repeat (first | exact Rep.here | apply Rep.there)); done))) | refine Rep2.other (by (focus ((repeat (first | exact Rep.here | apply Rep.there)); done))) | apply Rep2.there)); done))) (place_some _ _ _ _ _ _ (by assumption) (by assumption))))
  refine C_loop (fun m F L' => ∃ (k : Nat) (l : List Th) (v : Value), k ≤ ids.length ∧ m = ids.length - k ∧ addGo c.l ids = addGo l (ids.drop k) ∧ c.l.length ≤ l.length ∧ l.take c.l.length = c.l ∧ (Cls.mk c.q l).Ok ∧ IsSl v l.length ∧
    F = [(0, ptr p), (1, u), (5, int c.l.length), (16, u), (17, int ids.length), (18, int k)] ∧ L' = pt p 58 [.int .i64 c.q, v] :: sl 61 2 v (l.map thE) :: R) ids.length _ _
    ⟨0, c.l, v, Nat.zero_le _, rfl, rfl, Nat.le_refl _, by simp, ⟨ho1, ho2, ho3, ho4⟩, hv, rfl, rfl⟩ (by (exact sbf)) (fun _ h => h) ?_
  clear hv v
  rintro m F L' ⟨k, l, v, hk, rfl, hgo, hle, htk, hl, hv, rfl, rfl⟩
  have hl3 : l.length ≤ 64 := hl.2.2.1
  (repeat' first | refine stp ?_ | intro v' hv' | intro (b : Nat) | (apply w_cq0; rfl; rfl; exact Called.at2 (by (focus ((repeat (first | refine Rep2.here (by (focus ((repeat (first | exact Rep.here | apply Rep.there)); done))) | refine Rep2.other (by (focus ((repeat (first | exact Rep.here | apply Rep.there)); done))) | apply Rep2.there)); done))) (find_ok _ _ _ _ _ (by assumption))) | (apply w_cq0; rfl; rfl; exact Called.at2 (by (focus ((repeat (first | refine Rep2.here (by (focus ((repeat (first | exact Rep.here | apply Rep.there)); done))) | refine Rep2.other (by (focus ((repeat (first | exact Rep.here | apply Rep.there)); done))) | apply Rep2.there)); done))) (place_none _ _ _ _ _ (by assumption) (by assumption))) | (apply w_cq0; rfl; rfl; exact Called.at2 (by (focus ((repeat (first | refine Rep2.here (by (focus ((repeat (first | exact Rep.here | apply Rep.there)); done))) | refine Rep2.other (by (focus ((repeat (first | exact Rep.here | apply Rep.there)); done))) | apply Rep2.there)); done))) (place_some _ _ _ _ _ _ (by assumption) (by assumption))))
  refine C_cond rfl (fun hc => ?_) (fun hc => ?_)
  · have hk' : k < ids.length := by simpa using hc
    obtain ⟨id, hid⟩ : ∃ id, ids[k]? = some id := ⟨ids[k], by simp [hk']⟩
    have hld : Rd R ⟨vb u, vo u + k * 1, none⟩ (int id) := Rd.src hsrc (e := inE id) (k := 0) (by simp [hid]) rfl
    have hdrop : ids.drop k = id :: ids.drop (k + 1) := by rw [List.drop_eq_getElem_cons hk']; congr; rw [List.getElem?_eq_getElem hk'] at hid; exact Option.some.inj hid
    rw [hdrop] at hgo
    have hvc : IsSl (vsl v 0 c.l.length (vcap v) 2) c.l.length := hv.vsl hle
    have hfail : ∀ e : Int, addGo c.l ids = .error e → ∀ w, Sat w (pt p 58 [.int .i64 c.q, vsl v 0 c.l.length (vcap v) 2] :: sl 61 2 v (l.map thE) :: R) → Sat w (cls p (addM c ids).1 :: R) := by
      intro e he w hs
      have h2 := (hs.perm (.swap ..)).cut c.l.length (by simpa using hle)
      rw [← List.map_take, htk] at h2
      have : (addM c ids).1 = c := by unfold addM; rw [he]
      rw [this]
      exact cls_fold ⟨ho1, ho2, ho3, ho4⟩ (h2.perm (.swap ..))
    have hfail2 : ∀ e : Int, addGo c.l ids = .error e → (addM c ids).2 = e := by
      intro e he; unfold addM; rw [he]
    by_cases h1 : id < 0
    · have he : addGo c.l ids = .error 1 := by rw [hgo, addGo, if_pos h1]
      (repeat' first | refine stp ?_ | intro v' hv' | intro (b : Nat) | (apply w_cq0; rfl; rfl; exact Called.at2 (by (focus ((repeat (first | refine Rep2.here (by (focus ((repeat (first | exact Rep.here | apply Rep.there)); done))) | refine Rep2.other (by (focus ((repeat (first | exact Rep.here | apply Rep.there)); done))) | apply Rep2.there)); done))) (find_ok _ _ _ _ _ (by assumption))) | (apply w_cq0; rfl; rfl; exact Called.at2 (by (focus ((repeat (first | refine Rep2.here (by (focus ((repeat (first | exact Rep.here | apply Rep.there)); done))) | refine Rep2.other (by (focus ((repeat (first | exact Rep.here | apply Rep.there)); done))) | apply Rep2.there)); done))) (place_none _ _ _ _ _ (by assumption) (by assumption))) | (apply w_cq0; rfl; rfl; exact Called.at2 (by (focus ((repeat (first | refine Rep2.here (by (focus ((repeat (first | exact Rep.here | apply Rep.there)); done))) | refine Rep2.other (by (focus ((repeat (first | exact Rep.here | apply Rep.there)); done))) | apply Rep2.there)); done))) (place_some _ _ _ _ _ _ (by assumption) (by assumption))))
      exact At_ret1 (.inl rfl) Try.results10 rfl ⟨by rw [hfail2 _ he], rfl⟩ (fun w h => hfail _ he w h)
    · by_cases h2 : (findIx l id).isSome = true
      · have he : addGo c.l ids = .error 15 := by rw [hgo, addGo, if_neg h1, if_pos h2]
        have hx := ixI_some h2
        (repeat' first | refine stp ?_ | intro v' hv' | intro (b : Nat) | (apply w_cq0; rfl; rfl; exact Called.at2 (by (focus ((repeat (first | refine Rep2.here (by (focus ((repeat (first | exact Rep.here | apply Rep.there)); done))) | refine Rep2.other (by (focus ((repeat (first | exact Rep.here | apply Rep.there)); done))) | apply Rep2.there)); done))) (find_ok _ _ _ _ _ (by assumption))) | (apply w_cq0; rfl; rfl; exact Called.at2 (by (focus ((repeat (first | refine Rep2.here (by (focus ((repeat (first | exact Rep.here | apply Rep.there)); done))) | refine Rep2.other (by (focus ((repeat (first | exact Rep.here | apply Rep.there)); done))) | apply Rep2.there)); done))) (place_none _ _ _ _ _ (by assumption) (by assumption))) | (apply w_cq0; rfl; rfl; exact Called.at2 (by (focus ((repeat (first | refine Rep2.here (by (focus ((repeat (first | exact Rep.here | apply Rep.there)); done))) | refine Rep2.other (by (focus ((repeat (first | exact Rep.here | apply Rep.there)); done))) | apply Rep2.there)); done))) (place_some _ _ _ _ _ _ (by assumption) (by assumption))))
        exact At_ret1 (.inl rfl) Try.results10 rfl ⟨by rw [hfail2 _ he], rfl⟩ (fun w h => hfail _ he w h)
      · have hx := ixI_none h2
        by_cases h3 : 64 ≤ l.length
        · have he : addGo c.l ids = .error 13 := by rw [hgo, addGo, if_neg h1, if_neg h2, if_pos h3]
          (repeat' first | refine stp ?_ | intro v' hv' | intro (b : Nat) | (apply w_cq0; rfl; rfl; exact Called.at2 (by (focus ((repeat (first | refine Rep2.here (by (focus ((repeat (first | exact Rep.here | apply Rep.there)); done))) | refine Rep2.other (by (focus ((repeat (first | exact Rep.here | apply Rep.there)); done))) | apply Rep2.there)); done))) (find_ok _ _ _ _ _ (by assumption))) | (apply w_cq0; rfl; rfl; exact Called.at2 (by (focus ((repeat (first | refine Rep2.here (by (focus ((repeat (first | exact Rep.here | apply Rep.there)); done))) | refine Rep2.other (by (focus ((repeat (first | exact Rep.here | apply Rep.there)); done))) | apply Rep2.there)); done))) (place_none _ _ _ _ _ (by assumption) (by assumption))) | (apply w_cq0; rfl; rfl; exact Called.at2 (by (focus ((repeat (first | refine Rep2.here (by (focus ((repeat (first | exact Rep.here | apply Rep.there)); done))) | refine Rep2.other (by (focus ((repeat (first | exact Rep.here | apply Rep.there)); done))) | apply Rep2.there)); done))) (place_some _ _ _ _ _ _ (by assumption) (by assumption))))
          exact At_ret1 (.inl rfl) Try.results10 rfl ⟨by rw [hfail2 _ he], rfl⟩ (fun w h => hfail _ he w h)
        · rw [addGo, if_neg h1, if_neg h2, if_neg h3] at hgo
          (repeat' first | refine stp ?_ | intro v' hv' | intro (b : Nat) | (apply w_cq0; rfl; rfl; exact Called.at2 (by (focus ((repeat (first | refine Rep2.here (by (focus ((repeat (first | exact Rep.here | apply Rep.there)); done))) | refine Rep2.other (by (focus ((repeat (first | exact Rep.here | apply Rep.there)); done))) | apply Rep2.there)); done))) (find_ok _ _ _ _ _ (by assumption))) | (apply w_cq0; rfl; rfl; exact Called.at2 (by (focus ((repeat (first | refine Rep2.here (by (focus ((repeat (first | exact Rep.here | apply Rep.there)); done))) | refine Rep2.other (by (focus ((repeat (first | exact Rep.here | apply Rep.there)); done))) | apply Rep2.there)); done))) (place_none _ _ _ _ _ (by assumption) (by assumption))) | (apply w_cq0; rfl; rfl; exact Called.at2 (by (focus ((repeat (first | refine Rep2.here (by (focus ((repeat (first | exact Rep.here | apply Rep.there)); done))) | refine Rep2.other (by (focus ((repeat (first | exact Rep.here | apply Rep.there)); done))) | apply Rep2.there)); done))) (place_some _ _ _ _ _ _ (by assumption) (by assumption))))
          apply w_ap
          rfl; rfl; rfl; ((focus ((repeat (first | exact Del.here | apply Del.there)); done))); ((exact srf)); rfl; (simp; omega); (simp; omega)
          intro v2 hv2
          refine ⟨by (exact kmf), ?_⟩
          have hv3 : IsSl v2 (l ++ [Th.mk id 0]).length := by simpa using hv2
          (repeat' first | refine stp ?_ | intro v' hv' | intro (b : Nat) | (apply w_cq0; rfl; rfl; exact Called.at2 (by (focus ((repeat (first | refine Rep2.here (by (focus ((repeat (first | exact Rep.here | apply Rep.there)); done))) | refine Rep2.other (by (focus ((repeat (first | exact Rep.here | apply Rep.there)); done))) | apply Rep2.there)); done))) (find_ok _ _ _ _ _ (by assumption))) | (apply w_cq0; rfl; rfl; exact Called.at2 (by (focus ((repeat (first | refine Rep2.here (by (focus ((repeat (first | exact Rep.here | apply Rep.there)); done))) | refine Rep2.other (by (focus ((repeat (first | exact Rep.here | apply Rep.there)); done))) | apply Rep2.there)); done))) (place_none _ _ _ _ _ (by assumption) (by assumption))) | (apply w_cq0; rfl; rfl; exact Called.at2 (by (focus ((repeat (first | refine Rep2.here (by (focus ((repeat (first | exact Rep.here | apply Rep.there)); done))) | refine Rep2.other (by (focus ((repeat (first | exact Rep.here | apply Rep.there)); done))) | apply Rep2.there)); done))) (place_some _ _ _ _ _ _ (by assumption) (by assumption))))
          refine At_again (ids.length - (k + 1)) _ _ (by omega) ⟨k + 1, l ++ [⟨id, 0⟩], v2, hk', rfl, hgo, by simp; omega, ?_, ?_, hv3, rfl, rfl⟩ (by (exact sbf)) (fun w h => ?_)
          · rw [List.take_append_of_le_length hle, htk]
          · refine ⟨hl.1, hl.2.1, by simp; omega, fun t ht => ?_⟩
            rcases List.mem_append.1 ht with h | h
            · exact hl.2.2.2 t h
            · simp at h; subst h; exact ⟨Int.le_refl _, by show (0 : Int) ≤ c.q; omega⟩
          · have : (l ++ [Th.mk id 0]).map thE = l.map thE ++ [[int id, .int .i64 0]] := by simp [thE]
            rw [this]
            exact Sel.sat (by (focus ((repeat (first | exact Sel.refl | (apply Sel.cons; (focus ((repeat (first | exact Del.here | apply Del.there)); done))) | refine Sel.drop ?_)); done))) h
  · obtain rfl : k = ids.length := by simp at hc; omega
    have hr : addM c ids = (⟨c.q, l⟩, 0) := by unfold addM; rw [hgo, List.drop_length, addGo]
    (repeat' first | refine stp ?_ | intro v' hv' | intro (b : Nat) | (apply w_cq0; rfl; rfl; exact Called.at2 (by (focus ((repeat (first | refine Rep2.here (by (focus ((repeat (first | exact Rep.here | apply Rep.there)); done))) | refine Rep2.other (by (focus ((repeat (first | exact Rep.here | apply Rep.there)); done))) | apply Rep2.there)); done))) (find_ok _ _ _ _ _ (by assumption))) | (apply w_cq0; rfl; rfl; exact Called.at2 (by (focus ((repeat (first | refine Rep2.here (by (focus ((repeat (first | exact Rep.here | apply Rep.there)); done))) | refine Rep2.other (by (focus ((repeat (first | exact Rep.here | apply Rep.there)); done))) | apply Rep2.there)); done))) (place_none _ _ _ _ _ (by assumption) (by assumption))) | (apply w_cq0; rfl; rfl; exact Called.at2 (by (focus ((repeat (first | refine Rep2.here (by (focus ((repeat (first | exact Rep.here | apply Rep.there)); done))) | refine Rep2.other (by (focus ((repeat (first | exact Rep.here | apply Rep.there)); done))) | apply Rep2.there)); done))) (place_some _ _ _ _ _ _ (by assumption) (by assumption))))
    exact At_ret1 (.inl rfl) Try.results10 rfl ⟨by rw [hr], rfl⟩ (fun w h => by rw [hr]; exact cls_fold (c := ⟨c.q, l⟩) hl h)

/-- What Drop makes of the row. -/
def dropM (c : Cls) (id : Int) : Cls × Int := match findIx c.l id with
  | some k => (⟨c.q, c.l.eraseIdx k⟩, 0)
  | none => (c, 14)
set_option maxHeartbeats 1000000 in
theorem Drop_ok (p : Nat) (c : Cls) (id : Int) (R : List HP) : Called Try.prog 22 [ptr p, int id] (cls p c :: R) (is (int (dropM c id).2) (cls p (dropM c id).1 :: R)) := by
  refine Fn2 Try.func22 rfl Try.ntmps22 rfl ?_
  refine C_cls fun v ho hv => ?_
  cases hf : findIx c.l id with
  | none =>
    have hm : dropM c id = (c, 14) := by unfold dropM; rw [hf]
    (repeat' first | refine stp ?_ | intro v' hv' | intro (b : Nat) | (apply w_cq0; rfl; rfl; exact Called.at2 (by (focus ((repeat (first | refine Rep2.here (by (focus ((repeat (first | exact Rep.here | apply Rep.there)); done))) | refine Rep2.other (by (focus ((repeat (first | exact Rep.here | apply Rep.there)); done))) | apply Rep2.there)); done))) (find_ok _ _ _ _ _ (by assumption))) | (apply w_cq0; rfl; rfl; exact Called.at2 (by (focus ((repeat (first | refine Rep2.here (by (focus ((repeat (first | exact Rep.here | apply Rep.there)); done))) | refine Rep2.other (by (focus ((repeat (first | exact Rep.here | apply Rep.there)); done))) | apply Rep2.there)); done))) (place_none _ _ _ _ _ (by assumption) (by assumption))) | (apply w_cq0; rfl; rfl; exact Called.at2 (by (focus ((repeat (first | refine Rep2.here (by (focus ((repeat (first | exact Rep.here | apply Rep.there)); done))) | refine Rep2.other (by (focus ((repeat (first | exact Rep.here | apply Rep.there)); done))) | apply Rep2.there)); done))) (place_some _ _ _ _ _ _ (by assumption) (by assumption))))
    exact At_ret1 (.inl rfl) Try.results22 rfl ⟨by rw [hm], rfl⟩ (fun w h => by rw [hm]; exact cls_fold ho h)
  | some k =>
    have hm : dropM c id = (⟨c.q, c.l.eraseIdx k⟩, 0) := by unfold dropM; rw [hf]
    obtain ⟨t, ht, _⟩ := findIx_lt hf
    have hk : k < c.l.length := (List.getElem?_eq_some_iff.1 ht).1
    have hN := hv.len
    (repeat' first | refine stp ?_ | intro v' hv' | intro (b : Nat) | (apply w_cq0; rfl; rfl; exact Called.at2 (by (focus ((repeat (first | refine Rep2.here (by (focus ((repeat (first | exact Rep.here | apply Rep.there)); done))) | refine Rep2.other (by (focus ((repeat (first | exact Rep.here | apply Rep.there)); done))) | apply Rep2.there)); done))) (find_ok _ _ _ _ _ (by assumption))) | (apply w_cq0; rfl; rfl; exact Called.at2 (by (focus ((repeat (first | refine Rep2.here (by (focus ((repeat (first | exact Rep.here | apply Rep.there)); done))) | refine Rep2.other (by (focus ((repeat (first | exact Rep.here | apply Rep.there)); done))) | apply Rep2.there)); done))) (place_none _ _ _ _ _ (by assumption) (by assumption))) | (apply w_cq0; rfl; rfl; exact Called.at2 (by (focus ((repeat (first | refine Rep2.here (by (focus ((repeat (first | exact Rep.here | apply Rep.there)); done))) | refine Rep2.other (by (focus ((repeat (first | exact Rep.here | apply Rep.there)); done))) | apply Rep2.there)); done))) (place_some _ _ _ _ _ _ (by assumption) (by assumption))))
    apply w_clS
    rfl; rfl; exact Called.del (by (focus ((repeat (first | exact Del.here | apply Del.there)); done))) (Delete_ok v (c.l.map thE) k (k + 1) (by omega) (by simp; omega) (by simp [List.all_map, thE, Value.oneCell']))
    (simp; omega)
    intro v' hv'
    refine ⟨by (exact kmf), ?_⟩
    (repeat' first | refine stp ?_ | intro v' hv' | intro (b : Nat) | (apply w_cq0; rfl; rfl; exact Called.at2 (by (focus ((repeat (first | refine Rep2.here (by (focus ((repeat (first | exact Rep.here | apply Rep.there)); done))) | refine Rep2.other (by (focus ((repeat (first | exact Rep.here | apply Rep.there)); done))) | apply Rep2.there)); done))) (find_ok _ _ _ _ _ (by assumption))) | (apply w_cq0; rfl; rfl; exact Called.at2 (by (focus ((repeat (first | refine Rep2.here (by (focus ((repeat (first | exact Rep.here | apply Rep.there)); done))) | refine Rep2.other (by (focus ((repeat (first | exact Rep.here | apply Rep.there)); done))) | apply Rep2.there)); done))) (place_none _ _ _ _ _ (by assumption) (by assumption))) | (apply w_cq0; rfl; rfl; exact Called.at2 (by (focus ((repeat (first | refine Rep2.here (by (focus ((repeat (first | exact Rep.here | apply Rep.there)); done))) | refine Rep2.other (by (focus ((repeat (first | exact Rep.here | apply Rep.there)); done))) | apply Rep2.there)); done))) (place_some _ _ _ _ _ _ (by assumption) (by assumption))))
    refine At_ret1 (.inl rfl) Try.results22 rfl ⟨by rw [hm], rfl⟩ (fun w h => ?_)
    rw [hm]
    have e : (c.l.eraseIdx k).map thE = (c.l.map thE).take k ++ (c.l.map thE).drop (k + 1) := by rw [List.eraseIdx_eq_take_drop_succ]; simp
    refine cls_fold (c := ⟨c.q, c.l.eraseIdx k⟩) (v := v') ⟨ho.1, ho.2.1, by show (c.l.eraseIdx k).length ≤ 64; rw [List.length_eraseIdx_of_lt hk]; have := ho.2.2.1; omega, fun t ht => ho.2.2.2 t (List.mem_of_mem_eraseIdx ht)⟩ ?_
    rw [e]
    exact Sel.sat (by (focus ((repeat (first | exact Sel.refl | (apply Sel.cons; (focus ((repeat (first | exact Del.here | apply Del.there)); done))) | refine Sel.drop ?_)); done))) h

/-- What Yield makes of the row. -/
def yieldM (c : Cls) (id : Int) : Cls × Int := if (dropM c id).2 = 0 then addM (dropM c id).1 [id] else dropM c id
set_option maxHeartbeats 1000000 in
theorem Yield_ok (p : Nat) (c : Cls) (id : Int) (R : List HP) : Called Try.prog 18 [ptr p, int id] (cls p c :: R) (is (int (yieldM c id).2) (cls p (yieldM c id).1 :: R)) := by
  refine Fn2 Try.func18 rfl Try.ntmps18 rfl ?_
  by_cases h0 : (dropM c id).2 = 0
  · have hm : yieldM c id = addM (dropM c id).1 [id] := by unfold yieldM; rw [if_pos h0]
    (repeat' first | refine stp ?_ | intro v' hv' | intro (b : Nat) | (apply w_cq0; rfl; rfl; exact Called.at2 (by (focus ((repeat (first | refine Rep2.here (by (focus ((repeat (first | exact Rep.here | apply Rep.there)); done))) | refine Rep2.other (by (focus ((repeat (first | exact Rep.here | apply Rep.there)); done))) | apply Rep2.there)); done))) (find_ok _ _ _ _ _ (by assumption))) | (apply w_cq0; rfl; rfl; exact Called.at2 (by (focus ((repeat (first | refine Rep2.here (by (focus ((repeat (first | exact Rep.here | apply Rep.there)); done))) | refine Rep2.other (by (focus ((repeat (first | exact Rep.here | apply Rep.there)); done))) | apply Rep2.there)); done))) (place_none _ _ _ _ _ (by assumption) (by assumption))) | (apply w_cq0; rfl; rfl; exact Called.at2 (by (focus ((repeat (first | refine Rep2.here (by (focus ((repeat (first | exact Rep.here | apply Rep.there)); done))) | refine Rep2.other (by (focus ((repeat (first | exact Rep.here | apply Rep.there)); done))) | apply Rep2.there)); done))) (place_some _ _ _ _ _ _ (by assumption) (by assumption))))
    apply w_cd
    rfl; rfl; exact Called.at (by (focus ((repeat (first | exact Rep.here | apply Rep.there)); done))) (Drop_ok p c id); ((exact kmf))
    (repeat' first | refine stp ?_ | intro v' hv' | intro (b : Nat) | (apply w_cq0; rfl; rfl; exact Called.at2 (by (focus ((repeat (first | refine Rep2.here (by (focus ((repeat (first | exact Rep.here | apply Rep.there)); done))) | refine Rep2.other (by (focus ((repeat (first | exact Rep.here | apply Rep.there)); done))) | apply Rep2.there)); done))) (find_ok _ _ _ _ _ (by assumption))) | (apply w_cq0; rfl; rfl; exact Called.at2 (by (focus ((repeat (first | refine Rep2.here (by (focus ((repeat (first | exact Rep.here | apply Rep.there)); done))) | refine Rep2.other (by (focus ((repeat (first | exact Rep.here | apply Rep.there)); done))) | apply Rep2.there)); done))) (place_none _ _ _ _ _ (by assumption) (by assumption))) | (apply w_cq0; rfl; rfl; exact Called.at2 (by (focus ((repeat (first | refine Rep2.here (by (focus ((repeat (first | exact Rep.here | apply Rep.there)); done))) | refine Rep2.other (by (focus ((repeat (first | exact Rep.here | apply Rep.there)); done))) | apply Rep2.there)); done))) (place_some _ _ _ _ _ _ (by assumption) (by assumption))))
    apply w_cd
    rfl; rfl; exact Called.del1 (by (focus ((repeat (first | exact Del.here | apply Del.there)); done))) (Add_ok p (dropM c id).1 v' [id] _ Src.sl hv'); ((exact kmf))
    (repeat' first | refine stp ?_ | intro v' hv' | intro (b : Nat) | (apply w_cq0; rfl; rfl; exact Called.at2 (by (focus ((repeat (first | refine Rep2.here (by (focus ((repeat (first | exact Rep.here | apply Rep.there)); done))) | refine Rep2.other (by (focus ((repeat (first | exact Rep.here | apply Rep.there)); done))) | apply Rep2.there)); done))) (find_ok _ _ _ _ _ (by assumption))) | (apply w_cq0; rfl; rfl; exact Called.at2 (by (focus ((repeat (first | refine Rep2.here (by (focus ((repeat (first | exact Rep.here | apply Rep.there)); done))) | refine Rep2.other (by (focus ((repeat (first | exact Rep.here | apply Rep.there)); done))) | apply Rep2.there)); done))) (place_none _ _ _ _ _ (by assumption) (by assumption))) | (apply w_cq0; rfl; rfl; exact Called.at2 (by (focus ((repeat (first | refine Rep2.here (by (focus ((repeat (first | exact Rep.here | apply Rep.there)); done))) | refine Rep2.other (by (focus ((repeat (first | exact Rep.here | apply Rep.there)); done))) | apply Rep2.there)); done))) (place_some _ _ _ _ _ _ (by assumption) (by assumption))))
    exact At_ret1 (.inl rfl) Try.results18 rfl ⟨by rw [hm], rfl⟩ (fun w h => by rw [hm]; exact Sel.sat (by (focus ((repeat (first | exact Sel.refl | (apply Sel.cons; (focus ((repeat (first | exact Del.here | apply Del.there)); done))) | refine Sel.drop ?_)); done))) h)
  · have hm : yieldM c id = dropM c id := by unfold yieldM; rw [if_neg h0]
    (repeat' first | refine stp ?_ | intro v' hv' | intro (b : Nat) | (apply w_cq0; rfl; rfl; exact Called.at2 (by (focus ((repeat (first | refine Rep2.here (by (focus ((repeat (first | exact Rep.here | apply Rep.there)); done))) | refine Rep2.other (by (focus ((repeat (first | exact Rep.here | apply Rep.there)); done))) | apply Rep2.there)); done))) (find_ok _ _ _ _ _ (by assumption))) | (apply w_cq0; rfl; rfl; exact Called.at2 (by (focus ((repeat (first | refine Rep2.here (by (focus ((repeat (first | exact Rep.here | apply Rep.there)); done))) | refine Rep2.other (by (focus ((repeat (first | exact Rep.here | apply Rep.there)); done))) | apply Rep2.there)); done))) (place_none _ _ _ _ _ (by assumption) (by assumption))) | (apply w_cq0; rfl; rfl; exact Called.at2 (by (focus ((repeat (first | refine Rep2.here (by (focus ((repeat (first | exact Rep.here | apply Rep.there)); done))) | refine Rep2.other (by (focus ((repeat (first | exact Rep.here | apply Rep.there)); done))) | apply Rep2.there)); done))) (place_some _ _ _ _ _ _ (by assumption) (by assumption))))
    apply w_cd
    rfl; rfl; exact Called.at (by (focus ((repeat (first | exact Rep.here | apply Rep.there)); done))) (Drop_ok p c id); ((exact kmf))
    (repeat' first | refine stp ?_ | intro v' hv' | intro (b : Nat) | (apply w_cq0; rfl; rfl; exact Called.at2 (by (focus ((repeat (first | refine Rep2.here (by (focus ((repeat (first | exact Rep.here | apply Rep.there)); done))) | refine Rep2.other (by (focus ((repeat (first | exact Rep.here | apply Rep.there)); done))) | apply Rep2.there)); done))) (find_ok _ _ _ _ _ (by assumption))) | (apply w_cq0; rfl; rfl; exact Called.at2 (by (focus ((repeat (first | refine Rep2.here (by (focus ((repeat (first | exact Rep.here | apply Rep.there)); done))) | refine Rep2.other (by (focus ((repeat (first | exact Rep.here | apply Rep.there)); done))) | apply Rep2.there)); done))) (place_none _ _ _ _ _ (by assumption) (by assumption))) | (apply w_cq0; rfl; rfl; exact Called.at2 (by (focus ((repeat (first | refine Rep2.here (by (focus ((repeat (first | exact Rep.here | apply Rep.there)); done))) | refine Rep2.other (by (focus ((repeat (first | exact Rep.here | apply Rep.there)); done))) | apply Rep2.there)); done))) (place_some _ _ _ _ _ _ (by assumption) (by assumption))))
    exact At_ret1 (.inl rfl) Try.results18 rfl ⟨by rw [hm], rfl⟩ (fun w h => by rw [hm]; exact h)

/-- What Run makes of the row. -/
def runM (c : Cls) (id x : Int) : Cls × Int := match findIx c.l id with
  | none => (c, 14)
  | some k => match c.l[k]? with
    | none => (c, 0)
    | some t => if x < 0 ∨ c.q - t.ran < x then (c, 10) else
      if t.ran + x = c.q then yieldM ⟨c.q, c.l.set k ⟨t.id, t.ran + x⟩⟩ id else (⟨c.q, c.l.set k ⟨t.id, t.ran + x⟩⟩, 0)
set_option maxHeartbeats 1000000 in
theorem Run_ok (p : Nat) (c : Cls) (id x : Int) (hx : -9223372036854775808 ≤ x ∧ x ≤ 9223372036854775807) (R : List HP) : Called Try.prog 11 [ptr p, int id, int x] (cls p c :: R) (is (int (runM c id x).2) (cls p (runM c id x).1 :: R)) := by
  refine Fn3 Try.func11 rfl Try.ntmps11 rfl ?_
  refine C_cls fun v ho hv => ?_
  cases hf : findIx c.l id with
  | none =>
    have hm : runM c id x = (c, 14) := by unfold runM; rw [hf]
    (repeat' first | refine stp ?_ | intro v' hv' | intro (b : Nat) | (apply w_cq0; rfl; rfl; exact Called.at2 (by (focus ((repeat (first | refine Rep2.here (by (focus ((repeat (first | exact Rep.here | apply Rep.there)); done))) | refine Rep2.other (by (focus ((repeat (first | exact Rep.here | apply Rep.there)); done))) | apply Rep2.there)); done))) (find_ok _ _ _ _ _ (by assumption))) | (apply w_cq0; rfl; rfl; exact Called.at2 (by (focus ((repeat (first | refine Rep2.here (by (focus ((repeat (first | exact Rep.here | apply Rep.there)); done))) | refine Rep2.other (by (focus ((repeat (first | exact Rep.here | apply Rep.there)); done))) | apply Rep2.there)); done))) (place_none _ _ _ _ _ (by assumption) (by assumption))) | (apply w_cq0; rfl; rfl; exact Called.at2 (by (focus ((repeat (first | refine Rep2.here (by (focus ((repeat (first | exact Rep.here | apply Rep.there)); done))) | refine Rep2.other (by (focus ((repeat (first | exact Rep.here | apply Rep.there)); done))) | apply Rep2.there)); done))) (place_some _ _ _ _ _ _ (by assumption) (by assumption))))
    exact At_ret1 (.inl rfl) Try.results11 rfl ⟨by rw [hm], rfl⟩ (fun w h => by rw [hm]; exact cls_fold ho h)
  | some k =>
    obtain ⟨t, ht, _⟩ := findIx_lt hf
    have hk : k < c.l.length := (List.getElem?_eq_some_iff.1 ht).1
    have hget : (c.l.map thE)[k]? = some (thE t) := by simp [ht]
    have ho' := ho
    obtain ⟨h1, h2, h6, h3⟩ := ho'
    obtain ⟨h4, h5⟩ := h3 t (List.mem_of_getElem? ht)
    by_cases hx1 : x < 0
    · have hm : runM c id x = (c, 10) := by unfold runM; rw [hf]; simp only [ht]; rw [if_pos (.inl hx1)]
      (repeat' first | refine stp ?_ | intro v' hv' | intro (b : Nat) | (apply w_cq0; rfl; rfl; exact Called.at2 (by (focus ((repeat (first | refine Rep2.here (by (focus ((repeat (first | exact Rep.here | apply Rep.there)); done))) | refine Rep2.other (by (focus ((repeat (first | exact Rep.here | apply Rep.there)); done))) | apply Rep2.there)); done))) (find_ok _ _ _ _ _ (by assumption))) | (apply w_cq0; rfl; rfl; exact Called.at2 (by (focus ((repeat (first | refine Rep2.here (by (focus ((repeat (first | exact Rep.here | apply Rep.there)); done))) | refine Rep2.other (by (focus ((repeat (first | exact Rep.here | apply Rep.there)); done))) | apply Rep2.there)); done))) (place_none _ _ _ _ _ (by assumption) (by assumption))) | (apply w_cq0; rfl; rfl; exact Called.at2 (by (focus ((repeat (first | refine Rep2.here (by (focus ((repeat (first | exact Rep.here | apply Rep.there)); done))) | refine Rep2.other (by (focus ((repeat (first | exact Rep.here | apply Rep.there)); done))) | apply Rep2.there)); done))) (place_some _ _ _ _ _ _ (by assumption) (by assumption))))
      exact At_ret1 (.inl rfl) Try.results11 rfl ⟨by rw [hm], rfl⟩ (fun w h => by rw [hm]; exact cls_fold ho h)
    · by_cases hx2 : c.q - t.ran < x
      · have hm : runM c id x = (c, 10) := by unfold runM; rw [hf]; simp only [ht]; rw [if_pos (.inr hx2)]
        (repeat' first | refine stp ?_ | intro v' hv' | intro (b : Nat) | (apply w_cq0; rfl; rfl; exact Called.at2 (by (focus ((repeat (first | refine Rep2.here (by (focus ((repeat (first | exact Rep.here | apply Rep.there)); done))) | refine Rep2.other (by (focus ((repeat (first | exact Rep.here | apply Rep.there)); done))) | apply Rep2.there)); done))) (find_ok _ _ _ _ _ (by assumption))) | (apply w_cq0; rfl; rfl; exact Called.at2 (by (focus ((repeat (first | refine Rep2.here (by (focus ((repeat (first | exact Rep.here | apply Rep.there)); done))) | refine Rep2.other (by (focus ((repeat (first | exact Rep.here | apply Rep.there)); done))) | apply Rep2.there)); done))) (place_none _ _ _ _ _ (by assumption) (by assumption))) | (apply w_cq0; rfl; rfl; exact Called.at2 (by (focus ((repeat (first | refine Rep2.here (by (focus ((repeat (first | exact Rep.here | apply Rep.there)); done))) | refine Rep2.other (by (focus ((repeat (first | exact Rep.here | apply Rep.there)); done))) | apply Rep2.there)); done))) (place_some _ _ _ _ _ _ (by assumption) (by assumption))))
        exact At_ret1 (.inl rfl) Try.results11 rfl ⟨by rw [hm], rfl⟩ (fun w h => by rw [hm]; exact cls_fold ho h)
      · have hge2 : ((c.l.map thE).set k ((thE t).set 1 (int (t.ran + x)))) = (c.l.set k ⟨t.id, t.ran + x⟩).map thE := by rw [List.map_set]; rfl
        have hget2 : ((c.l.map thE).set k ((thE t).set 1 (int (t.ran + x))))[k]? = some [int t.id, int (t.ran + x)] := by simp [hk]; rfl
        have hok : Cls.Ok ⟨c.q, c.l.set k ⟨t.id, t.ran + x⟩⟩ := by
          refine ⟨h1, h2, by simpa using h6, fun u hu => ?_⟩
          rcases List.mem_or_eq_of_mem_set hu with h | h
          · exact h3 u h
          · subst h; exact ⟨by show 0 ≤ t.ran + x; omega, by show t.ran + x ≤ c.q; omega⟩
        have hfold : ∀ w, Sat w (pt p 58 [.int .i64 c.q, v] :: sl 61 2 v ((c.l.map thE).set k ((thE t).set 1 (int (t.ran + x)))) :: R) → Sat w (cls p ⟨c.q, c.l.set k ⟨t.id, t.ran + x⟩⟩ :: R) := by
          intro w h
          rw [hge2] at h
          exact cls_fold (c := ⟨c.q, c.l.set k ⟨t.id, t.ran + x⟩⟩) hok h
        by_cases hq : t.ran + x = c.q
        · have hm : runM c id x = yieldM ⟨c.q, c.l.set k ⟨t.id, t.ran + x⟩⟩ id := by unfold runM; rw [hf]; simp only [ht]; rw [if_neg (by omega), if_pos hq]
          (repeat' first | refine stp ?_ | intro v' hv' | intro (b : Nat) | (apply w_cq0; rfl; rfl; exact Called.at2 (by (focus ((repeat (first | refine Rep2.here (by (focus ((repeat (first | exact Rep.here | apply Rep.there)); done))) | refine Rep2.other (by (focus ((repeat (first | exact Rep.here | apply Rep.there)); done))) | apply Rep2.there)); done))) (find_ok _ _ _ _ _ (by assumption))) | (apply w_cq0; rfl; rfl; exact Called.at2 (by (focus ((repeat (first | refine Rep2.here (by (focus ((repeat (first | exact Rep.here | apply Rep.there)); done))) | refine Rep2.other (by (focus ((repeat (first | exact Rep.here | apply Rep.there)); done))) | apply Rep2.there)); done))) (place_none _ _ _ _ _ (by assumption) (by assumption))) | (apply w_cq0; rfl; rfl; exact Called.at2 (by (focus ((repeat (first | refine Rep2.here (by (focus ((repeat (first | exact Rep.here | apply Rep.there)); done))) | refine Rep2.other (by (focus ((repeat (first | exact Rep.here | apply Rep.there)); done))) | apply Rep2.there)); done))) (place_some _ _ _ _ _ _ (by assumption) (by assumption))))
          apply w_cd
          rfl; rfl; exact (Yield_ok p ⟨c.q, c.l.set k ⟨t.id, t.ran + x⟩⟩ id R).pre hfold; ((exact kmf))
          (repeat' first | refine stp ?_ | intro v' hv' | intro (b : Nat) | (apply w_cq0; rfl; rfl; exact Called.at2 (by (focus ((repeat (first | refine Rep2.here (by (focus ((repeat (first | exact Rep.here | apply Rep.there)); done))) | refine Rep2.other (by (focus ((repeat (first | exact Rep.here | apply Rep.there)); done))) | apply Rep2.there)); done))) (find_ok _ _ _ _ _ (by assumption))) | (apply w_cq0; rfl; rfl; exact Called.at2 (by (focus ((repeat (first | refine Rep2.here (by (focus ((repeat (first | exact Rep.here | apply Rep.there)); done))) | refine Rep2.other (by (focus ((repeat (first | exact Rep.here | apply Rep.there)); done))) | apply Rep2.there)); done))) (place_none _ _ _ _ _ (by assumption) (by assumption))) | (apply w_cq0; rfl; rfl; exact Called.at2 (by (focus ((repeat (first | refine Rep2.here (by (focus ((repeat (first | exact Rep.here | apply Rep.there)); done))) | refine Rep2.other (by (focus ((repeat (first | exact Rep.here | apply Rep.there)); done))) | apply Rep2.there)); done))) (place_some _ _ _ _ _ _ (by assumption) (by assumption))))
          exact At_ret1 (.inl rfl) Try.results11 rfl ⟨by rw [hm], rfl⟩ (fun w h => by rw [hm]; exact h)
        · have hm : runM c id x = (⟨c.q, c.l.set k ⟨t.id, t.ran + x⟩⟩, 0) := by unfold runM; rw [hf]; simp only [ht]; rw [if_neg (by omega), if_neg hq]
          (repeat' first | refine stp ?_ | intro v' hv' | intro (b : Nat) | (apply w_cq0; rfl; rfl; exact Called.at2 (by (focus ((repeat (first | refine Rep2.here (by (focus ((repeat (first | exact Rep.here | apply Rep.there)); done))) | refine Rep2.other (by (focus ((repeat (first | exact Rep.here | apply Rep.there)); done))) | apply Rep2.there)); done))) (find_ok _ _ _ _ _ (by assumption))) | (apply w_cq0; rfl; rfl; exact Called.at2 (by (focus ((repeat (first | refine Rep2.here (by (focus ((repeat (first | exact Rep.here | apply Rep.there)); done))) | refine Rep2.other (by (focus ((repeat (first | exact Rep.here | apply Rep.there)); done))) | apply Rep2.there)); done))) (place_none _ _ _ _ _ (by assumption) (by assumption))) | (apply w_cq0; rfl; rfl; exact Called.at2 (by (focus ((repeat (first | refine Rep2.here (by (focus ((repeat (first | exact Rep.here | apply Rep.there)); done))) | refine Rep2.other (by (focus ((repeat (first | exact Rep.here | apply Rep.there)); done))) | apply Rep2.there)); done))) (place_some _ _ _ _ _ _ (by assumption) (by assumption))))
          exact At_ret1 (.inl rfl) Try.results11 rfl ⟨by rw [hm], rfl⟩ (fun w h => by rw [hm]; exact hfold w h)
end Go.Proofs.Ytenpeogkefmclaa
