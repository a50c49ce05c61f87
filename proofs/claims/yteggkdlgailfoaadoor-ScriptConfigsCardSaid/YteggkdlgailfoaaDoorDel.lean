/- A slice cut short in its own array: append(s[:i], s[j:]...) and clear of what lies behind. Conditions: none. -/
import Derived.Test.YteggkdlgailfoaaDoorUse
set_option linter.all false
set_option linter.deprecated false
namespace Go.Sep
variable [B0 : Base]

theorem Addr.add_off (b o n : Nat) : (⟨b, o, none⟩ : Addr).add n = ⟨b, o + n, none⟩ := by unfold Addr.add; split <;> simp_all

theorem take_flatten {n : Nat} {cs : List (List Value)} (hl : ∀ e ∈ cs, e.length = n) (i : Nat) : (cs.take i).flatten = cs.flatten.take (i * n) := by
  induction cs generalizing i with
  | nil => simp
  | cons c cs ih =>
    cases i with
    | zero => simp
    | succ i =>
      have hc := hl c (by simp)
      rw [List.take_succ_cons, List.flatten_cons, List.flatten_cons, ih (fun e he => hl e (List.mem_cons_of_mem _ he)), List.take_append, List.take_of_length_le (l := c) (by rw [hc, Nat.add_mul]; omega), hc]
      congr 2
      rw [Nat.add_mul]; omega
theorem drop_flatten {n : Nat} {cs : List (List Value)} (hl : ∀ e ∈ cs, e.length = n) (i : Nat) : (cs.drop i).flatten = cs.flatten.drop (i * n) := by
  induction cs generalizing i with
  | nil => simp
  | cons c cs ih =>
    cases i with
    | zero => simp
    | succ i =>
      have hc := hl c (by simp)
      rw [List.drop_succ_cons, List.flatten_cons, ih (fun e he => hl e (List.mem_cons_of_mem _ he)), List.drop_append, List.drop_of_length_le (l := c) (i := (i + 1) * n) (by rw [hc, Nat.add_mul]; omega), hc, List.nil_append]
      congr 1
      rw [Nat.add_mul]; omega

section
variable {P : Program} {n : Nat} {F : Fr} {ds : List Deferred} {L R : List HP} {d : Option Tmp} {ty : TypeId} {pos : String} {aft : Array Edge} {g : Option (Nat × Bool)}

theorem runs_appendSelf {t e k bytes i j N : Nat} {s x : Operand} {v : Value} {cs : List (List Value)} (hB : elemB P t = some (e, k, bytes)) (hs : ev F s = some (vsl v 0 i (vcap v) k)) (hx : ev F x = some (vsl v j N (vcap v) k))
    (hN : cs.length = N) (hij : i < j) (hj : j ≤ N) (h1 : cs.all (fun l => l.all Value.oneCell') = true) :
    Runs P ⟨d, .call { callee := .builtin .append, args := #[s, x], argTypes := #[t, t] }, ty, pos, aft, g⟩ n F ds (sl e k v cs :: R) (is (vsl v 0 (i + (N - j)) (vcap v) k) (sl e k (vsl v 0 (i + (N - j)) (vcap v) k) (cs.take i ++ cs.drop j) :: R)) :=
  ⟨rfl, fun ac w hf hw => by
    obtain ⟨ht, hk0, inf, z, hi, hz, rfl, rfl, hzs, hz1⟩ := elemB_spec hB
    obtain ⟨hl, ⟨rfl, rfl⟩ | ⟨b, cap, cur, rfl, hb, g1, g2, g3, g4⟩⟩ := sl_split hw
    · simp at hN; omega
    simp only [vcap] at hs hx ⊢
    simp only [vsl, Option.map_some, Nat.zero_mul, Nat.sub_zero] at hs hx ⊢
    have hself : (if cap = 0 then (some ⟨b, 0, none⟩ : Option Addr) else some ((⟨b, 0, none⟩ : Addr).add 0)) = some ⟨b, 0, none⟩ := by split <;> simp [Addr.add]
    rw [hself] at hs ⊢
    have hld : ∀ e ∈ cs.drop j, e.length = inf.size := fun e he => hl e (List.mem_of_mem_drop he)
    have hlt : ∀ e ∈ cs.take i, e.length = inf.size := fun e he => hl e (List.mem_of_mem_take he)
    have hnl : (cs.drop j).flatten.length = (N - j) * inf.size := by rw [flatten_length hld, List.length_drop, hN]
    have hone : ∀ u ∈ (cs.drop j).flatten, u.oneCell' = true := fun u hu => by
      obtain ⟨l, hl', hu'⟩ := List.mem_flatten.1 hu
      exact List.all_eq_true.1 (List.all_eq_true.1 h1 l (List.mem_of_mem_drop hl')) u hu'
    have hcur : ∀ q u, cs.flatten[q]? = some u → w.cell? ⟨b, q, none⟩ = some u := fun q u hu => by
      refine cell_of_blk hb q ?_
      rw [← g4, List.getElem?_take] at hu
      split at hu
      · simpa using hu
      · cases hu
    have hfit : i * inf.size + (cs.drop j).flatten.length ≤ cur.size := by
      rw [hnl, g3, ← Nat.add_mul]; exact Nat.mul_le_mul_right _ (by omega)
    have key : (Builtin.append_ #[t, t] ty #[.slice (some ⟨b, 0, none⟩) i cap, .slice (if cap = j then some ⟨b, 0, none⟩ else some ((⟨b, 0, none⟩ : Addr).add (j * inf.size))) (N - j) (cap - j)]).run P w =
        .ok (.slice (some ⟨b, 0, none⟩) (i + (N - j)) cap) (w.setRow b (cur.toList.take (i * inf.size) ++ (cs.drop j).flatten ++ cur.toList.drop (i * inf.size + (cs.drop j).flatten.length)).toArray) := by
      by_cases hcj : cap = j
      · have : N - j = 0 := by omega
        have hnil : (cs.drop j).flatten = [] := List.eq_nil_of_length_eq_zero (by rw [hnl, this, Nat.zero_mul])
        have := run_append_room (P := P) w t ty e inf ht hi b i cap cur hb ⟨b, 0, none⟩ (N - j) (cap - j) (cs.drop j).flatten hnl (by rw [hnil]; intro q u h; simp at h) hone (by omega) hfit
        rw [if_pos hcj]; exact this
      · rw [if_neg hcj, Addr.add_off, Nat.zero_add]
        refine run_append_room (P := P) w t ty e inf ht hi b i cap cur hb ⟨b, j * inf.size, none⟩ (N - j) (cap - j) (cs.drop j).flatten hnl (fun q u hu => ?_) hone (by omega) hfit
        rw [Addr.add_off]
        refine hcur _ _ ?_
        rw [drop_flatten hl, List.getElem?_drop] at hu
        exact hu
    simp only [execOp, resolve, invoke, builtin, Sem.run_bind, Sem.run_pure, Result.andThen_ok, List.map_toArray, List.map_cons, List.map_nil, hf.ev hs, hf.ev hx]
    rw [key]
    simp only [Result.andThen_ok, Upon]
    refine ⟨_, ⟨rfl, rfl⟩, ?_⟩
    have hlen : (cs.take i ++ cs.drop j).length = i + (N - j) := by simp; omega
    have hcl : cur.toList.length = cap * inf.size := by simpa using g3
    have hti : i * inf.size ≤ cs.length * inf.size := Nat.mul_le_mul_right _ (by omega)
    have e1 : cur.toList.take (i * inf.size) = (cs.take i).flatten := by
      rw [take_flatten hl, ← g4, List.take_take, Nat.min_eq_left hti]
    have := sl_inplace (cs' := cs.take i ++ cs.drop j) (w' := w.setRow b (cur.toList.take (i * inf.size) ++ (cs.drop j).flatten ++ cur.toList.drop (i * inf.size + (cs.drop j).flatten.length)).toArray) hw
      (flat_append hlt hld) (setRow_heap w b cur _ e _ hb) (fun q hq _ => setRow_other w b q _ hq) (by rw [hlen]; omega) ?_ ?_
    · rw [hlen] at this; exact this
    · simp only [List.size_toArray, List.length_append, List.length_take, List.length_drop, Array.length_toList]
      omega
    · rw [hlen, List.flatten_append, e1, Nat.add_mul, ← hnl]
      have e2 : i * inf.size = (cs.take i).flatten.length := by rw [flatten_length hlt, List.length_take, Nat.min_eq_left (by omega)]
      rw [e2, ← List.length_append]
      exact List.take_left⟩

theorem runs_sl_tail {t e k N M l h : Nat} {x y z : Operand} {v : Value} {kk kl : IntKind} (hE : elemOfSl P t = some (e, k)) (hv : IsSl v N) (hx : ev F x = some (vsl v 0 M (vcap v) k)) (hy : ev F y = some (.int kk (l : Int))) (hz : ev F z = some (.int kl (h : Int))) (h0 : l ≤ h) (hh : h ≤ N) :
    Runs P ⟨d, .slice t x (some y) (some z) none, ty, pos, aft, g⟩ n F ds L (is (vsl v l h (vcap v) k) L) :=
  runs_read rfl fun ac w hf hw => by
    obtain ⟨ht, i, hi, rfl⟩ := elemOfSl_spec hE
    obtain ⟨ao, cap, rfl, h1, h2, h3, h4⟩ := hv
    have hc : (l : Int) ≤ h := by omega
    have hc' : (h : Int) ≤ cap := by omega
    simp only [vcap] at hx ⊢
    simp only [vsl, Nat.zero_mul, Nat.sub_zero] at hx ⊢
    have e1 : (if cap = 0 then ao else ao.map (·.add 0)) = ao := by
      split
      · rfl
      · cases ao <;> simp [Addr.add]
    rw [e1] at hx
    simp [execOp, hf.ev hx, hf.ev hy, hf.ev hz, Instr.sliceAt, Instr.slice, run_underlying ht, Instr.sliceBounds, run_sliceBound, hc, hc', sizeOf, typeInfo, hi, vsl, vcap]

theorem mem_zeroCells {z : Array Value} (h1 : z.all Value.oneCell' = true) (m : Nat) : ∀ u ∈ (Builtin.zeroCells z m).toList, u.oneCell' = true := by
  intro u hu
  simp only [Builtin.zeroCells, Array.toList_map, List.mem_map] at hu
  obtain ⟨q, hq, rfl⟩ := hu
  have hz : 0 < z.size := by
    rcases Nat.eq_zero_or_pos z.size with h | h
    · simp [h] at hq
    · exact h
  have hlt : q % z.size < z.size := Nat.mod_lt _ hz
  rw [getElem!_pos z _ hlt]
  rw [Array.all_eq_true] at h1
  exact h1 _ hlt

theorem runs_clearTail {t e k bytes N M : Nat} {x : Operand} {v : Value} {cs : List (List Value)} (hB : elemB P t = some (e, k, bytes)) (hv : IsSl v N) (hx : ev F x = some (vsl v M N (vcap v) k)) (hM : cs.length = M) (hMN : M ≤ N) :
    Runs P ⟨d, .call { callee := .builtin .clear, args := #[x], argTypes := #[t] }, ty, pos, aft, g⟩ n F ds (sl e k (vsl v 0 M (vcap v) k) cs :: R) (is (.tuple #[]) (sl e k (vsl v 0 M (vcap v) k) cs :: R)) :=
  ⟨rfl, fun ac w hf hw => by
    obtain ⟨ht, hk0, inf, z, hi, hz, rfl, rfl, hzs, hz1⟩ := elemB_spec hB
    obtain ⟨ao, cap, rfl, h1, h2, h3, h4⟩ := hv
    simp only [vcap] at hx hw ⊢
    simp only [vsl, Nat.zero_mul, Nat.sub_zero] at hx hw ⊢
    have e1 : (if cap = 0 then ao else ao.map (·.add 0)) = ao := by
      split
      · rfl
      · cases ao <;> simp [Addr.add]
    rw [e1] at hw ⊢
    have hsame : ∀ q, (Builtin.clear_ #[t] ty #[.slice q 0 (cap - M)]).run P w = .ok (.tuple #[]) w := by
      intro q; cases q <;> simp [Builtin.clear_, run_underlying ht]
    simp only [execOp, resolve, invoke, builtin, Sem.run_bind, Sem.run_pure, Result.andThen_ok, List.map_toArray, List.map_cons, List.map_nil, hf.ev hx]
    by_cases hz0 : N - M = 0
    · rw [hz0, hsame]
      simp only [Result.andThen_ok, Upon]
      exact ⟨_, ⟨rfl, rfl⟩, hw⟩
    · obtain ⟨hl, ⟨hn, _⟩ | ⟨b, cap', cur, hvv, hb, g1, g2, g3, g4⟩⟩ := sl_split hw
      · cases hn; omega
      · cases hvv
        have hcM : cap ≠ cs.length := by omega
        rw [if_neg hcM]
        simp only [Option.map_some, Addr.add_off, Nat.zero_add]
        have hzl : (Builtin.zeroCells z.cells (N - cs.length)).toList.length = (N - cs.length) * inf.size := by simp [size_zeroCells, hzs]
        have hfit : cs.length * inf.size + (Builtin.zeroCells z.cells (N - cs.length)).toList.length ≤ cur.size := by
          rw [hzl, g3, ← Nat.add_mul]; exact Nat.mul_le_mul_right _ (by omega)
        have hst := run_storeCells_at P b (cs.length * inf.size) e (Builtin.zeroCells z.cells (N - cs.length)).toList 0 cur w hb (by simpa using hfit) (mem_zeroCells hz1 _)
        have hr : (Builtin.clear_ #[t] ty #[.slice (some ⟨b, cs.length * inf.size, none⟩) (N - cs.length) (cap - cs.length)]).run P w = .ok (.tuple #[]) (w.setRow b (cur.toList.take (cs.length * inf.size) ++ (Builtin.zeroCells z.cells (N - cs.length)).toList ++ cur.toList.drop (cs.length * inf.size + (Builtin.zeroCells z.cells (N - cs.length)).toList.length)).toArray) := by
          obtain ⟨m, hm⟩ : ∃ m, N - cs.length = m + 1 := ⟨N - cs.length - 1, by omega⟩
          simp only [Nat.add_zero] at hst
          rw [hm] at hst ⊢
          simp [Builtin.clear_, run_underlying ht, zeroValue, typeInfo, hi, hz, hst]
        rw [hr]
        simp only [Result.andThen_ok, Upon]
        refine ⟨_, ⟨rfl, rfl⟩, ?_⟩
        refine sl_inplace hw hl (setRow_heap w b cur _ e _ hb) (fun q hq _ => setRow_other w b q _ hq) g1 ?_ ?_
        · simp only [List.size_toArray, List.length_append, List.length_take, List.length_drop, Array.length_toList] at hfit ⊢
          omega
        · have hle : cs.length * inf.size ≤ cur.toList.length := by simp at hfit ⊢; omega
          have e2 : cs.length * inf.size = (cur.toList.take (cs.length * inf.size)).length := by rw [List.length_take, Nat.min_eq_left hle]
          conv => lhs; arg 1; rw [e2]
          rw [List.append_assoc, List.take_left]
          exact g4⟩
theorem Runs.pre {o : Oper} {L' : List HP} {K : Value → List HP → Prop} (h : Runs P o n F ds L' K) (hp : ∀ w, Sat w L → Sat w L') : Runs P o n F ds L K := ⟨h.plain, fun a w h1 h2 => h.run a w h1 (hp w h2)⟩
end

section
variable {P : Program} {ro : Option Nat} {m : Option Mode} {ops : Array Oper} {Q : Exit → Act → World → Prop} {n : Nat} {rest : List Oper} {F : Fr} {ds : List Deferred} {L R : List HP} {d : Nat} {ty : TypeId} {pos : String} {aft : Array Edge}

theorem w_apS {t e k bytes i j N : Nat} {s x : Operand} {v : Value} {cs : List (List Value)} [hB : ElemB P t e k bytes] (hd : Nat.blt d n = true) (hs : ev F s = some (vsl v 0 i (vcap v) k)) (hx : ev F x = some (vsl v j N (vcap v) k)) (hr : Del (sl e k v cs) L R)
    (hN : cs.length = N) (hij : i < j) (hj : j ≤ N) (h1 : cs.all (fun l => l.all Value.oneCell') = true)
    (hm : KeepsM P ops ⟨some d, .call { callee := .builtin .append, args := #[s, x], argTypes := #[t, t] }, ty, pos, aft, none⟩ n ds (sl e k (vsl v 0 (i + (N - j)) (vcap v) k) (cs.take i ++ cs.drop j) :: R) m)
    (hk : W P ro m ops Q n rest ((d, vsl v 0 (i + (N - j)) (vcap v) k) :: F) ds (sl e k (vsl v 0 (i + (N - j)) (vcap v) k) (cs.take i ++ cs.drop j) :: R)) :
    W P ro m ops Q n (⟨some d, .call { callee := .builtin .append, args := #[s, x], argTypes := #[t, t] }, ty, pos, aft, none⟩ :: rest) F ds L :=
  Wd hd ((runs_appendSelf hB.out hs hx hN hij hj h1).pre fun w hs => hs.perm hr.perm) hm hk
theorem w_slt {t e k N M l h : Nat} {x y z : Operand} {v : Value} {kk kl : IntKind} [hE : ElemSl P t e k] (hd : Nat.blt d n = true) (hx : ev F x = some (vsl v 0 M (vcap v) k)) (hy : ev F y = some (.int kk (l : Int))) (hz : ev F z = some (.int kl (h : Int))) (hv : IsSl v N) (h0 : l ≤ h) (hh : h ≤ N)
    (hk : W P ro m ops Q n rest ((d, vsl v l h (vcap v) k) :: F) ds L) : W P ro m ops Q n (⟨some d, .slice t x (some y) (some z) none, ty, pos, aft, none⟩ :: rest) F ds L := Wp hd (fun _ => runs_sl_tail hE.out hv hx hy hz h0 hh) hk
theorem w_clt {t e k bytes N M : Nat} {x : Operand} {v : Value} {cs : List (List Value)} [hB : ElemB P t e k bytes] (hv : IsSl v N) (hx : ev F x = some (vsl v M N (vcap v) k)) (hr : Del (sl e k (vsl v 0 M (vcap v) k) cs) L R) (hM : cs.length = M) (hMN : M ≤ N)
    (hm : KeepsM P ops ⟨none, .call { callee := .builtin .clear, args := #[x], argTypes := #[t] }, ty, pos, aft, none⟩ n ds (sl e k (vsl v 0 M (vcap v) k) cs :: R) m)
    (hk : W P ro m ops Q n rest F ds (sl e k (vsl v 0 M (vcap v) k) cs :: R)) : W P ro m ops Q n (⟨none, .call { callee := .builtin .clear, args := #[x], argTypes := #[t] }, ty, pos, aft, none⟩ :: rest) F ds L :=
  Ws ((runs_clearTail hB.out hv hx hM hMN).pre fun w hs => hs.perm hr.perm) hm hk
theorem IsSl.vsl {v : Value} {N h k : Nat} (hv : IsSl v N) (hh : h ≤ N) : IsSl (Sep.vsl v 0 h (vcap v) k) h := by
  obtain ⟨ao, cap, rfl, h1, h2, h3, h4⟩ := hv
  refine ⟨if cap = 0 then ao else ao.map (·.add (0 * k)), cap, rfl, by omega, h2, fun e => ?_, fun a e hp => ?_⟩
  · split at e
    · assumption
    · cases ao with
      | none => exact h3 rfl
      | some a => cases e
  · split at e
    · exact h4 a e hp
    · cases ao with
      | none => cases e
      | some a' => simp [Addr.add] at e; subst e; exact h4 a' rfl hp
end
end Go.Sep
