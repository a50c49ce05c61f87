/- The walk in short words: a step, a test, the small searches. Conditions: none. -/
import Derived.Test.YteggkdlgailfoaaDoorTac
set_option linter.all false
set_option linter.deprecated false
namespace Go.Sep
variable [B0 : Base]
theorem frm {L L' : List HP} (h : Sel L L' := by (focus ((repeat (first | exact Sel.refl | (apply Sel.cons; (focus ((repeat (first | exact Del.here | apply Del.there)); done))) | refine Sel.drop ?_)); done))) : ∀ w, Sat w L → Sat w L' := fun _ hs => h.sat hs
theorem nil1 {E n : Nat} {L L' : List HP} (h : Sel (sl E n (.slice none 0 0) [] :: L) L' := by (focus ((repeat (first | exact Sel.refl | (apply Sel.cons; (focus ((repeat (first | exact Del.here | apply Del.there)); done))) | refine Sel.drop ?_)); done))) : ∀ w, Sat w L → Sat w L' := fun _ hs => h.sat (Sat.sl_nil hs)
theorem nil2 {E n E' n' : Nat} {L L' : List HP} (h : Sel (sl E n (.slice none 0 0) [] :: sl E' n' (.slice none 0 0) [] :: L) L' := by (focus ((repeat (first | exact Sel.refl | (apply Sel.cons; (focus ((repeat (first | exact Del.here | apply Del.there)); done))) | refine Sel.drop ?_)); done))) : ∀ w, Sat w L → Sat w L' := fun _ hs => h.sat (Sat.sl_nil (Sat.sl_nil hs))
theorem sbf {F F' : Fr} (h : subF F F' := by (focus ((repeat (first | exact sn | refine sc rfl ?_)); done))) : subF F F' := h
theorem kmf {P : Program} {ops : Array Oper} {op : Oper} {n : Nat} {ds : List Deferred} {L : List HP} {m : Option Mode} (h : KeepsM P ops op n ds L m := by (first | exact km0 | (refine kms rfl rfl ?_; repeat (first | exact kn | refine kw (by decide +kernel) ?_ | refine kr (ld rfl (by (focus ((repeat (first | assumption | exact .pt rfl | exact .sl ‹_› rfl | exact .sl1 (by first | assumption | rfl) | apply Rd.there)); done)))) ?_ | refine kr (la rfl (by (focus ((repeat (first | assumption | exact .pt | exact .sl ‹_› | apply RdAll.there)); done))) rfl) ?_ | refine kr (ln rfl (by (focus ((repeat (first | assumption | exact Len.of ‹_› | exact .slm | exact .sl | apply Len.there)); done)))) ?_)))) : KeepsM P ops op n ds L m := h
theorem srf {L : List HP} {x : Value} {n : Nat} {es : List (List Value)} (h : Src L x n es := by (focus ((repeat (first | assumption | exact Src.sl | apply Src.there)); done))) : Src L x n es := h

section
variable {P : Program} {ro : Option Nat} {m : Option Mode} {ops : Array Oper} {Q : Exit → Act → World → Prop} {n : Nat} {rest : List Oper} {F : Fr} {ds : List Deferred} {L : List HP} {d : Nat} {ty : TypeId} {pos : String} {aft : Array Edge}
theorem w_izP {t e : TypeId} {m0 N : Nat} {x y : Operand} {v : Value} {k : IntKind} {i : Int} [h : ElemSl P t e m0] (hd : Nat.blt d n = true) (hx : ev F x = some v) (hy : ev F y = some (.int k i)) (hl : IsSl v N) (h0 : 0 ≤ i) (h1 : i < N)
    (hk : W P ro m ops Q n rest ((d, .pointer (some ⟨vb v, vo v + i.toNat * m0, none⟩)) :: F) ds L) : W P ro m ops Q n (⟨some d, .indexAddr t x y, ty, pos, aft, none⟩ :: rest) F ds L := Wp hd (fun _ => runs_indexAddr h.out hx hy (Len.of hl) h0 h1) hk
theorem w_box' {t : TypeId} {x : Operand} {v : Value} (hd : Nat.blt d n = true) (hx : ev F x = some v) (hv : v.oneCell' = true) (hm : ∀ b, KeepsM P ops ⟨some d, .box t x, ty, pos, aft, none⟩ n ds (pt b t [v] :: L) m) (hk : ∀ b, W P ro m ops Q n rest ((d, .pointer (some ⟨b, 0, none⟩)) :: F) ds (pt b t [v] :: L)) :
    W P ro m ops Q n (⟨some d, .box t x, ty, pos, aft, none⟩ :: rest) F ds L := w_box hd hx hv fun b => ⟨hm b, hk b⟩
theorem w_boxA' {t : TypeId} {x : Operand} {vs : List Value} (hd : Nat.blt d n = true) (hx : ev F x = some (.agg vs.toArray)) (hm : ∀ b, KeepsM P ops ⟨some d, .box t x, ty, pos, aft, none⟩ n ds (pt b t vs :: L) m) (hk : ∀ b, W P ro m ops Q n rest ((d, .pointer (some ⟨b, 0, none⟩)) :: F) ds (pt b t vs :: L)) :
    W P ro m ops Q n (⟨some d, .box t x, ty, pos, aft, none⟩ :: rest) F ds L := w_boxA hd hx fun b => ⟨hm b, hk b⟩
theorem w_al' {t : TypeId} {vs : List Value} [h : ZeroOf P t vs] (hd : Nat.blt d n = true) (hm : ∀ b, KeepsM P ops ⟨some d, .alloc t, ty, pos, aft, none⟩ n ds (pt b t vs :: L) m) (hk : ∀ b, W P ro m ops Q n rest ((d, .pointer (some ⟨b, 0, none⟩)) :: F) ds (pt b t vs :: L)) :
    W P ro m ops Q n (⟨some d, .alloc t, ty, pos, aft, none⟩ :: rest) F ds L := w_al hd fun b => ⟨hm b, hk b⟩
theorem w_bs' {t e k bytes N : Nat} {ps : List (Nat × Operand)} {es : List (List Value)} [hB : ElemB P t e k bytes] (hd : Nat.blt d n = true) (h : Parts F k 0 ps es) (hN : Nat.beq ps.length N = true) (hes : Nat.beq es.length N = true) (hlim : Nat.ble (N * k) 16777216 = true)
    (hm : ∀ v', IsSl v' N → KeepsM P ops ⟨some d, .buildSlice t N ps.toArray, ty, pos, aft, none⟩ n ds (sl e k v' es :: L) m) (hk : ∀ v', IsSl v' N → W P ro m ops Q n rest ((d, v') :: F) ds (sl e k v' es :: L)) : W P ro m ops Q n (⟨some d, .buildSlice t N ps.toArray, ty, pos, aft, none⟩ :: rest) F ds L :=
  w_bs hd h hN hes hlim fun v' hv' => ⟨hm v' hv', hk v' hv'⟩
theorem w_clM' {α : Type} {g : α → List Value} {l : List α} {f : FuncId} {xs : List Operand} {ts : Array TypeId} {vs : List Value} {E k : Nat} {R : List HP} [CanEnter P f] (hd : Nat.blt d n = true) (hx : evs F xs = some vs) (h : Called P f vs L (retSl E k (l.map g) R)) (hN : l.length ≤ 9223372036854775807)
    (hm : ∀ v, IsSl v l.length → KeepsM P ops ⟨some d, .call { callee := .value (.func f), args := xs.toArray, argTypes := ts }, ty, pos, aft, none⟩ n ds (sl E k v (l.map g) :: R) m) (hk : ∀ v, IsSl v l.length → W P ro m ops Q n rest ((d, v) :: F) ds (sl E k v (l.map g) :: R)) : W P ro m ops Q n (⟨some d, .call { callee := .value (.func f), args := xs.toArray, argTypes := ts }, ty, pos, aft, none⟩ :: rest) F ds L :=
  w_clM hd hx h hN fun v hv => ⟨hm v hv, hk v hv⟩
end
/-- A step. -/
theorem stp {G R : Prop} (k : R) (h : R → G := by first
  | exact W_nil
  | (apply w_mv; rfl; rfl)
  | (apply w_as; rfl; rfl)
  | (apply w_nc; rfl; rfl)
  | (apply w_fa; rfl; rfl)
  | (apply w_ld0; rfl; rfl; (focus ((repeat (first | assumption | exact .pt rfl | exact .sl ‹_› rfl | exact .sl1 (by first | assumption | rfl) | apply Rd.there)); done)))
  | (apply w_ld; rfl; rfl; (focus ((repeat (first | assumption | exact .pt rfl | exact .sl ‹_› rfl | exact .sl1 (by first | assumption | rfl) | apply Rd.there)); done)))
  | (apply w_la0; rfl; rfl; (focus ((repeat (first | assumption | exact .pt | exact .sl ‹_› | apply RdAll.there)); done)); rfl)
  | (apply w_la; rfl; rfl; (focus ((repeat (first | assumption | exact .pt | exact .sl ‹_› | apply RdAll.there)); done)); rfl)
  | (apply w_lnP; rfl; rfl; assumption)
  | (apply w_ln0; rfl; rfl; (focus ((repeat (first | assumption | exact Len.of ‹_› | exact .slm | exact .sl | apply Len.there)); done)))
  | (apply w_ln; rfl; rfl; (focus ((repeat (first | assumption | exact Len.of ‹_› | exact .slm | exact .sl | apply Len.there)); done)))
  | (apply w_iaP; rfl; rfl; rfl; assumption; (first | assumption | omega))
  | (apply w_izP; rfl; rfl; rfl; assumption; omega; omega)
  | (apply w_ia0; rfl; rfl; rfl; (focus ((repeat (first | assumption | exact Len.of ‹_› | exact .slm | exact .sl | apply Len.there)); done)); (first | assumption | omega))
  | (apply w_ia; rfl; rfl; rfl; (focus ((repeat (first | assumption | exact Len.of ‹_› | exact .slm | exact .sl | apply Len.there)); done)); (first | assumption | omega))
  | (apply w_iz0; rfl; rfl; rfl; (focus ((repeat (first | assumption | exact Len.of ‹_› | exact .slm | exact .sl | apply Len.there)); done)); omega; omega)
  | (apply w_iz; rfl; rfl; rfl; (focus ((repeat (first | assumption | exact Len.of ‹_› | exact .slm | exact .sl | apply Len.there)); done)); omega; omega)
  | (apply w_e20; rfl; rfl)
  | (apply w_e21; rfl; rfl)
  | (apply w_e30; rfl; rfl)
  | (apply w_e31; rfl; rfl)
  | (apply w_e32; rfl; rfl)
  | (apply w_e40; rfl; rfl)
  | (apply w_e41; rfl; rfl)
  | (apply w_e42; rfl; rfl)
  | (apply w_e43; rfl; rfl)
  | (apply w_ex; rfl; rfl; rfl)
  | (apply w_st; rfl; rfl; (first | rfl | exact IsSl.one ‹_› | assumption); (focus ((repeat (first | exact .pt' rfl (by simp only [List.set_cons_succ, List.set_cons_zero, Nat.zero_add]; rfl) | exact .sl ‹_› rfl | exact .sl1 (by assumption) | apply St.there)); done)); ((first | exact km0 | (refine kms rfl rfl ?_; repeat (first | exact kn | refine kw (by decide +kernel) ?_ | refine kr (ld rfl (by (focus ((repeat (first | assumption | exact .pt rfl | exact .sl ‹_› rfl | exact .sl1 (by first | assumption | rfl) | apply Rd.there)); done)))) ?_ | refine kr (la rfl (by (focus ((repeat (first | assumption | exact .pt | exact .sl ‹_› | apply RdAll.there)); done))) rfl) ?_ | refine kr (ln rfl (by (focus ((repeat (first | assumption | exact Len.of ‹_› | exact .slm | exact .sl | apply Len.there)); done)))) ?_)))))
  | (apply w_sa; rfl; rfl; rfl; rfl; (focus ((repeat (first | exact .pt rfl | apply StAll.there)); done)); ((first | exact km0 | (refine kms rfl rfl ?_; repeat (first | exact kn | refine kw (by decide +kernel) ?_ | refine kr (ld rfl (by (focus ((repeat (first | assumption | exact .pt rfl | exact .sl ‹_› rfl | exact .sl1 (by first | assumption | rfl) | apply Rd.there)); done)))) ?_ | refine kr (la rfl (by (focus ((repeat (first | assumption | exact .pt | exact .sl ‹_› | apply RdAll.there)); done))) rfl) ?_ | refine kr (ln rfl (by (focus ((repeat (first | assumption | exact Len.of ‹_› | exact .slm | exact .sl | apply Len.there)); done)))) ?_)))))
  | (apply w_box'; rfl; rfl; (first | rfl | exact IsSl.one ‹_› | assumption); (intro b; (first | exact km0 | (refine kms rfl rfl ?_; repeat (first | exact kn | refine kw (by decide +kernel) ?_ | refine kr (ld rfl (by (focus ((repeat (first | assumption | exact .pt rfl | exact .sl ‹_› rfl | exact .sl1 (by first | assumption | rfl) | apply Rd.there)); done)))) ?_ | refine kr (la rfl (by (focus ((repeat (first | assumption | exact .pt | exact .sl ‹_› | apply RdAll.there)); done))) rfl) ?_ | refine kr (ln rfl (by (focus ((repeat (first | assumption | exact Len.of ‹_› | exact .slm | exact .sl | apply Len.there)); done)))) ?_)))))
  | (apply w_boxA'; rfl; rfl; (intro b; (first | exact km0 | (refine kms rfl rfl ?_; repeat (first | exact kn | refine kw (by decide +kernel) ?_ | refine kr (ld rfl (by (focus ((repeat (first | assumption | exact .pt rfl | exact .sl ‹_› rfl | exact .sl1 (by first | assumption | rfl) | apply Rd.there)); done)))) ?_ | refine kr (la rfl (by (focus ((repeat (first | assumption | exact .pt | exact .sl ‹_› | apply RdAll.there)); done))) rfl) ?_ | refine kr (ln rfl (by (focus ((repeat (first | assumption | exact Len.of ‹_› | exact .slm | exact .sl | apply Len.there)); done)))) ?_)))))
  | (apply w_al'; rfl; (intro b; (first | exact km0 | (refine kms rfl rfl ?_; repeat (first | exact kn | refine kw (by decide +kernel) ?_ | refine kr (ld rfl (by (focus ((repeat (first | assumption | exact .pt rfl | exact .sl ‹_› rfl | exact .sl1 (by first | assumption | rfl) | apply Rd.there)); done)))) ?_ | refine kr (la rfl (by (focus ((repeat (first | assumption | exact .pt | exact .sl ‹_› | apply RdAll.there)); done))) rfl) ?_ | refine kr (ln rfl (by (focus ((repeat (first | assumption | exact Len.of ‹_› | exact .slm | exact .sl | apply Len.there)); done)))) ?_)))))
  | (apply w_bd; rfl; (focus ((repeat (first | exact bn | (apply b1; rfl; (first | rfl | exact IsSl.one ‹_› | assumption)) | (apply ba; rfl))); done)); (simp [fillL]; rfl))
  | (apply w_bs'; rfl; (focus ((repeat (first | exact pn | (apply p1; rfl; (first | rfl | exact IsSl.one ‹_› | assumption)) | (apply pa; rfl; rfl))); done)); rfl; rfl; rfl; (intro v' hv'; (first | exact km0 | (refine kms rfl rfl ?_; repeat (first | exact kn | refine kw (by decide +kernel) ?_ | refine kr (ld rfl (by (focus ((repeat (first | assumption | exact .pt rfl | exact .sl ‹_› rfl | exact .sl1 (by first | assumption | rfl) | apply Rd.there)); done)))) ?_ | refine kr (la rfl (by (focus ((repeat (first | assumption | exact .pt | exact .sl ‹_› | apply RdAll.there)); done))) rfl) ?_ | refine kr (ln rfl (by (focus ((repeat (first | assumption | exact Len.of ‹_› | exact .slm | exact .sl | apply Len.there)); done)))) ?_)))))
  | (apply w_eqnS; rfl; rfl)
  | (apply w_nenS; rfl; rfl)
  | (apply w_eqnN; rfl; rfl)
  | (apply w_nenN; rfl; rfl)
  | (apply w_notT; rfl; rfl)
  | (apply w_notF; rfl; rfl)
  | (apply w_not; rfl; rfl)
  | (apply w_neqF; rfl; rfl; rfl; omega)
  | (apply w_neqT; rfl; rfl; rfl; omega)
  | (apply w_neq; rfl; rfl; rfl)
  | (apply w_eqlT; rfl; rfl; rfl; omega)
  | (apply w_eqlF; rfl; rfl; rfl; omega)
  | (apply w_eql; rfl; rfl; rfl)
  | (apply w_lssT; rfl; rfl; rfl; omega)
  | (apply w_lssF; rfl; rfl; rfl; omega)
  | (apply w_lss; rfl; rfl; rfl)
  | (apply w_geqT; rfl; rfl; rfl; omega)
  | (apply w_geqF; rfl; rfl; rfl; omega)
  | (apply w_geq; rfl; rfl; rfl)
  | (apply w_gtrT; rfl; rfl; rfl; omega)
  | (apply w_gtrF; rfl; rfl; rfl; omega)
  | (apply w_gtr; rfl; rfl; rfl)
  | (apply w_leqT; rfl; rfl; rfl; omega)
  | (apply w_leqF; rfl; rfl; rfl; omega)
  | (apply w_leq; rfl; rfl; rfl)
  | (apply w_add; rfl; rfl; rfl; omega; omega)
  | (apply w_sub; rfl; rfl; rfl; omega; omega)
  | (apply w_rem; rfl; rfl; rfl; (first | omega | decide))
  | (apply w_on; rfl; rfl; rfl)
  | (apply w_off; rfl; rfl; rfl; rfl; rfl)
  | (apply w_offu; rfl; rfl; rfl; rfl)
  | (apply w_pickT; rfl; rfl; rfl)
  | (apply w_pickF; rfl; rfl; rfl)
  | (apply w_mf1; rfl; rfl)
  | (apply w_mf0; rfl)
  | (apply w_slh; rfl; rfl; rfl; assumption; omega)
  | (apply w_sll; rfl; rfl; rfl; assumption; omega)
  | (apply w_sllh; rfl; rfl; rfl; rfl; assumption; omega; omega)
  | (apply w_eqslP; rfl; rfl; assumption)
  | (apply w_neslP; rfl; rfl; assumption)
  | (apply w_ar; rfl; rfl; rfl; (first | decide | omega))
  | (apply w_az; rfl; rfl; rfl; omega; omega)
  | (apply w_mul; rfl; rfl; rfl; omega; omega)
  | (apply w_quoN; rfl; rfl; rfl; omega; omega; omega)
  | (apply w_remN; rfl; rfl; rfl; omega; omega)
  | (apply w_neg; rfl; rfl; constructor <;> omega)
  | (apply w_cd; rfl; rfl; apply Called.at (h := by assumption); ((focus ((repeat (first | exact Rep.here | apply Rep.there)); done))); ((first | exact km0 | (refine kms rfl rfl ?_; repeat (first | exact kn | refine kw (by decide +kernel) ?_ | refine kr (ld rfl (by (focus ((repeat (first | assumption | exact .pt rfl | exact .sl ‹_› rfl | exact .sl1 (by first | assumption | rfl) | apply Rd.there)); done)))) ?_ | refine kr (la rfl (by (focus ((repeat (first | assumption | exact .pt | exact .sl ‹_› | apply RdAll.there)); done))) rfl) ?_ | refine kr (ln rfl (by (focus ((repeat (first | assumption | exact Len.of ‹_› | exact .slm | exact .sl | apply Len.there)); done)))) ?_)))))
  | (apply w_cd0; rfl; apply Called.at (h := by assumption); ((focus ((repeat (first | exact Rep.here | apply Rep.there)); done))); ((first | exact km0 | (refine kms rfl rfl ?_; repeat (first | exact kn | refine kw (by decide +kernel) ?_ | refine kr (ld rfl (by (focus ((repeat (first | assumption | exact .pt rfl | exact .sl ‹_› rfl | exact .sl1 (by first | assumption | rfl) | apply Rd.there)); done)))) ?_ | refine kr (la rfl (by (focus ((repeat (first | assumption | exact .pt | exact .sl ‹_› | apply RdAll.there)); done))) rfl) ?_ | refine kr (ln rfl (by (focus ((repeat (first | assumption | exact Len.of ‹_› | exact .slm | exact .sl | apply Len.there)); done)))) ?_)))))
  | (apply w_cp; rfl; rfl; assumption)
  | (apply w_cq0; rfl; rfl; apply Called.at2 (h := by assumption); ((focus ((repeat (first | (apply Rep2.here; ((focus ((repeat (first | exact Rep.here | apply Rep.there)); done)))) | (apply Rep2.other; ((focus ((repeat (first | exact Rep.here | apply Rep.there)); done)))) | apply Rep2.there)); done))))
  | (apply w_clM'; rfl; rfl; (apply Called.delS (h := by assumption); (focus ((repeat (first | exact Del.here | apply Del.there)); done))); (first | omega | (simp; omega) | simp); (intro v' hv'; (first | exact km0 | (refine kms rfl rfl ?_; repeat (first | exact kn | refine kw (by decide +kernel) ?_ | refine kr (ld rfl (by (focus ((repeat (first | assumption | exact .pt rfl | exact .sl ‹_› rfl | exact .sl1 (by first | assumption | rfl) | apply Rd.there)); done)))) ?_ | refine kr (la rfl (by (focus ((repeat (first | assumption | exact .pt | exact .sl ‹_› | apply RdAll.there)); done))) rfl) ?_ | refine kr (ln rfl (by (focus ((repeat (first | assumption | exact Len.of ‹_› | exact .slm | exact .sl | apply Len.there)); done)))) ?_)))))
  | exact C_drawL (by kernel_rfl) (by kernel_rfl)
  | exact C_seq
  | exact C_region
  | exact C_true rfl
  | exact C_false rfl
  | exact C_skip
  | exact C_ret
  | exact C_label
  | exact C_scope
  | exact C_block
  | exact C_exit
  | exact At_then_normal
  | exact At_then_exit
  | exact At_then_ret
  | exact At_block_normal
  | exact At_block_exit
  | exact At_block_other rfl
  | exact At_block_ret
  | exact At_scope_normal
  | exact At_scope_exit
  | exact At_scope_ret
  | exact At_again_exit
  | exact At_again_ret) : G := h k
/-- A test. -/
theorem spl {G A B : Prop} (k1 : A) (k2 : B) (h : A → B → G := by first
  | exact C_condD rfl
  | exact C_condN rfl
  | exact C_cond rfl
  | exact w_splitD rfl rfl rfl
  | exact w_splitN rfl rfl rfl
  | exact w_split rfl rfl rfl) : G := h k1 k2
end Go.Sep
