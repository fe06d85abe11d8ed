/- warrenlaw13: opened, speaks; a catalog's calls under what holds of it. -/
import Derived.Test.YteejmoldhbfdnaaGreatDoorCInv
import Derived.Test.YteejmoldhbfdnaaGreatDoorCrash2
set_option maxRecDepth 8000
namespace Go.Proofs.YteejmoldhbfdnaaGreatDoor.Law13
open Go.W Go.RowKit Lib1 Oct OctR Seal Disk Disk2 Wal Num Wal2 Wal3 CatL Cat Cat2 Cat3 Cat4 LogL CInv Crash Crash2
namespace Fx
theorem cal_22 : callable Tryz.prog 22 = true := by kernel_rfl
theorem cal_24 : callable Tryz.prog 24 = true := by kernel_rfl
theorem ptr_24 : ptrT Tryz.prog 24 = true := by kernel_rfl

end Fx
section
variable {e : Ctx} {w : World} {As F G H : List Hp} {A B DA VA : Hp} {c d lb g size U K : Nat} {es : List Pr} {hist : List (List Ch)} {cs : List Ch} {v u lv : Value} {x : Ch} {D : DK}
def D1 : DK := putD ⟨[], [], 1099511627776⟩ 1 []
theorem opened (hG : Glob e) (hE : Kit.HasErr e) (hw : Owns e w As) : Calls Tryz.prog 17 #[] w
    (Ret e fun u Bs => ∃ d c lb A' DA', u = .tuple #[.pointer (some ⟨d, 0, none⟩), .pointer (some ⟨c, 0, none⟩)] ∧ CatM c (.pointer (some ⟨lb, 0, none⟩)) [] A' ∧ DiskA d D1 DA' ∧ Bs = A' :: DA' :: logB lb d catB 1 8 :: As) := by
  refine enter Tryz.func17 rfl Tryz.ntmps17 hw rfl ?_
  refine Cod.seq ?_
  refine Cod.region ?_
  refine Ops.val (opV_assign rfl) rfl ?_
  refine Ops.val (opV_assign rfl) rfl ?_
  refine Ops.nil ?_
  refine Ex.next ?_
  refine Cod.seq ?_
  refine Cod.region ?_
  refine Ops.call rfl (opC_call Fx.cal_22 rfl (fun w hw => open_files (fs := []) (vs := []) rfl (by simp) .nil (by simp [bulkF]) (by simp) hw .base .base (Sl.nil _ _) .nil)) rfl ?_
  rintro v7 _ ⟨d, DA, rfl, hDA, rfl⟩
  refine Ops.val (opV_move rfl) rfl ?_
  refine Ops.val (opV_extract rfl rfl) rfl ?_
  refine Ops.val (opV_extract rfl rfl) rfl ?_
  refine Ops.val (opV_assign rfl) rfl ?_
  refine Ops.val (opV_assign rfl) rfl ?_
  refine Ops.nil ?_
  refine Ex.next ?_
  refine Cod.seq ?_
  refine Cod.seq ?_
  refine Cod.region ?_
  refine Ops.val (opV_move rfl) rfl ?_
  refine Ops.val (opV_ptrnil Fx.ptr_24 rfl rfl rfl) rfl ?_
  refine Ops.nil ?_
  refine Ex.next ?_
  refine Cod.condF rfl ?_
  refine Cod.skip ?_
  refine Ex.next ?_
  refine Cod.seq ?_
  refine Cod.region ?_
  refine Ops.val (opV_move rfl) rfl ?_
  refine Ops.call rfl (opC_call Fx.cal_24 rfl (fun w hw => catOpen_new (D := openD [] 1099511627776) hG hE rfl rfl rfl hw .hd hDA)) rfl ?_
  rintro v14 _ ⟨c, lb, A', DA', rfl, hA', hDA', rfl⟩
  refine Ops.val (opV_move rfl) rfl ?_
  refine Ops.val (opV_extract rfl rfl) rfl ?_
  refine Ops.val (opV_extract rfl rfl) rfl ?_
  refine Ops.val (opV_assign rfl) rfl ?_
  refine Ops.val (opV_assign rfl) rfl ?_
  refine Ops.nil ?_
  refine Ex.next ?_
  refine Cod.seq ?_
  refine Cod.seq ?_
  refine Cod.region ?_
  refine Ops.val (opV_move rfl) rfl ?_
  refine Ops.val (opV_neq rfl rfl (by first | exact decide_eq_true (by omega) | exact decide_eq_false (by omega) | rfl)) rfl ?_
  refine Ops.nil ?_
  refine Ex.next ?_
  refine Cod.condF rfl ?_
  refine Cod.skip ?_
  refine Ex.next ?_
  refine Cod.seq ?_
  refine Cod.region ?_
  refine Ops.val (opV_move rfl) rfl ?_
  refine Ops.val (opV_move rfl) rfl ?_
  refine Ops.val (opV_assign rfl) rfl ?_
  refine Ops.val (opV_assign rfl) rfl ?_
  refine Ops.nil ?_
  refine Ex.next ?_
  refine Cod.ret ?_
  exact Ex.ret2 rfl rfl rfl (fun _ h => h.subs (by first | ((repeat (first | exact Sub.refl | exact Sub.nil | apply Sub.emp | (apply Sub.cons; focus ((repeat (first | exact Pick.hd | apply Pick.tl)); done)) | (apply Sub.con; focus ((repeat (first | exact Pick.hd | apply Pick.tl)); done)) | (apply Sub.app; focus ((repeat (first | exact Pick.hd | apply Pick.tl)); done)) | apply Sub.drop)); done) | ((repeat (first | rw [List.append_assoc] | rw [List.cons_append] | rw [List.nil_append] | rw [List.append_nil])); (repeat (first | exact Sub.refl | exact Sub.nil | apply Sub.emp | (apply Sub.cons; focus ((repeat (first | exact Pick.hd | apply Pick.tl)); done)) | (apply Sub.con; focus ((repeat (first | exact Pick.hd | apply Pick.tl)); done)) | (apply Sub.app; focus ((repeat (first | exact Pick.hd | apply Pick.tl)); done)) | apply Sub.drop)); done))) ⟨d, c, lb, A', DA', rfl, hA', hDA', rfl⟩
/-- Commit, under what holds of a catalog. -/
theorem commitCI {m : Nat} (hm : m = cs.length) (hG : Glob e) (hCI : CI U K es hist g size D) (hU : U + (cs.map chW).sum ≤ 600000000) (hK : K ≤ 20000000)
    (hw : Owns e w As) (hp : Pick As A F) (hq : Pick F DA G) (hL : Pick G (logB lb d catB g size) H) (hC : CatM c (.pointer (some ⟨lb, 0, none⟩)) es A) (hD : DiskA d D DA) (hVA : Has e H VA) (hv : Sl VA 3 v m (chs cs)) :
    Calls Tryz.prog 18 #[.pointer (some ⟨c, 0, none⟩), v] w (Ret e fun u Bs => u = .int .i64 (codeF es cs) ∧ ∃ hist' size' D' A' DA', CI (U + (cs.map chW).sum) (K + 1) (if doneF es cs then afterE es cs else es) hist' g size' D' ∧
      CatM c (.pointer (some ⟨lb, 0, none⟩)) (if doneF es cs then afterE es cs else es) A' ∧ DiskA d D' DA' ∧ Bs = A' :: DA' :: logB lb d catB g size' :: H) := by
  have hus := hCI.used
  have hle := hCI.le
  have hsz := hCI.size
  have hgK := hCI.gK
  have hsU := hCI.sU
  have hel := hCI.el
  have hro := hCI.room
  have hn9 := len_chW cs
  refine Calls.imp (commit_spec hm hG (by omega) (by omega) hCI.nd (by omega) (by omega) (by omega) (by rw [hCI.pend]; simp) hCI.po (by omega) (by omega) hw hp hq hL hC hD hVA hv) ?_
  rintro u Bs ⟨rfl, A', DA', h1, h2, rfl⟩ w h
  refine ⟨_, ⟨rfl, ?_⟩, h⟩
  cases hd : doneF es cs with
  | true =>
    rw [hd] at h1 h2
    exact ⟨_, _, _, A', DA', hCI.commit hd, h1, h2, rfl⟩
  | false =>
    rw [hd] at h1 h2
    exact ⟨hist, size, D, A', DA', hCI.mono (by omega) (by omega), h1, h2, rfl⟩
theorem pairsCI (hCI : CI U K es hist g size D) (hw : Owns e w As) (hA : Has e As A) (hC : CatM c lv es A) :
    Calls Tryz.prog 19 #[.pointer (some ⟨c, 0, none⟩)] w (Ret e fun u Bs => ∃ A', Row 74 2 u (pairsOf es).length (prs (pairsOf es)) A' ∧ Bs = A' :: As) :=
  pairs_spec (by have := hCI.sb; omega) (by have := hCI.el; omega) hw hA hC
theorem compactCI (hG : Glob e) (hCI : CI U K es hist g size D) (hU : U ≤ 600000000) (hK : K ≤ 20000000)
    (hw : Owns e w As) (hp : Pick As A F) (hq : Pick F DA G) (hL : Pick G (logB lb d catB g size) H) (hC : CatM c (.pointer (some ⟨lb, 0, none⟩)) es A) (hD : DiskA d D DA) :
    Calls Tryz.prog 30 #[.pointer (some ⟨c, 0, none⟩)] w (Ret e fun u Bs => u = .int .i64 0 ∧ ∃ hist' size' D' DA', CI U (K + 1) es hist' (g + 1) size' D' ∧ D'.used = 8 + (9 * es.length + sumB es) ∧ DiskA d D' DA' ∧ Bs = A :: DA' :: logB lb d catB (g + 1) size' :: H) := by
  have hus := hCI.used
  have hle := hCI.le
  have hgK := hCI.gK
  have hro := hCI.room
  refine Calls.imp (compact_spec hG hCI.sb hCI.el hCI.nd (by omega) (by omega) (by rw [hCI.pend]; simp) hCI.po (by omega) (by omega) (by rw [hCI.lk]; rfl) hw hp hq hL hC hD) ?_
  rintro u Bs ⟨rfl, DA', h1, rfl⟩ w h
  exact ⟨_, ⟨rfl, _, _, _, DA', hCI.compact, hCI.usedRenew, h1, rfl⟩, h⟩
theorem crashCI {kn : Nat} {kv KA : _} {keep : List Bool} {tear : Int} (hCI : CI U K es hist g size D) (hU : U ≤ 600000000) (hK : K ≤ 20000000) (hkn : kn = keep.length) (hk9 : keep.length ≤ 1000000000)
    (hw : Owns e w As) (hA : Has e As DA) (hD : DiskA d D DA) (hKA : Has e As KA) (hk : Sl KA 1 kv kn (keep.map Value.bool)) :
    Calls Tryz.prog 23 #[.pointer (some ⟨d, 0, none⟩), .agg #[kv, .int .i64 tear]] w
      (Ret e fun u Bs => ∃ vs A' LA, Row 159 2 u 1 vs A' ∧ FL LA vs [(fileF catB g, logOf hist)] ∧ Bs = A' :: LA :: As) := by
  have hus := hCI.used
  have hle := hCI.le
  have hgK := hCI.gK
  refine Calls.imp (crash_spec hkn (by rw [hCI.files]; simp) (hCI.names (by omega)) (by omega) hCI.fits (by rw [hCI.pend]; simp) hk9 hw hA hD hKA hk) ?_
  rintro u Bs ⟨vs, A', LA, h1, h2, rfl⟩ w h
  rw [hCI.left] at h1 h2
  exact ⟨_, ⟨vs, A', LA, h1, h2, rfl⟩, h⟩
theorem openCI {vs : List Value} (hCI : CI U K es hist g size D) (hU : U ≤ 600000000) (hK : K ≤ 20000000) (hw : Owns e w As) (hA : Has e As A) (hB : Has e As B) (hv : Sl A 2 v 1 vs) (hF : FL B vs [(fileF catB g, logOf hist)]) :
    Calls Tryz.prog 22 #[v, .int .i64 1099511627776] w (Ret e fun u Bs => ∃ p A', u = .tuple #[.pointer (some ⟨p, 0, none⟩), .int .i64 0] ∧ DiskA p D A' ∧ Bs = A' :: As) := by
  have hle := hCI.le
  have hgK := hCI.gK
  have hg := good_file (b := catB) (n := g) okCat (by omega)
  refine Calls.imp (open_files (fs := [(fileF catB g, logOf hist)]) (r := 1099511627776) rfl (fun x hx => by simp at hx; subst hx; exact hg) (by simp) (by simp [bulkF]; omega) (by simp) hw hA hB hv hF) ?_
  rintro u Bs ⟨p, A', rfl, h1, rfl⟩ w h
  rw [hCI.opened] at h1
  exact ⟨_, ⟨p, A', rfl, h1, rfl⟩, h⟩
theorem catOpenCI (hG : Glob e) (hE : Kit.HasErr e) (hCI : CI U K es hist g size D) (hU : U ≤ 600000000) (hK : K ≤ 20000000) (hw : Owns e w As) (hp : Pick As DA F) (hD : DiskA d D DA) :
    Calls Tryz.prog 24 #[.pointer (some ⟨d, 0, none⟩)] w (Ret e (OpenR d (afterE [] hist.flatten) g (logOf hist).length D F)) := by
  have hle := hCI.le
  have hgK := hCI.gK
  have hW := hCI.W
  have hhK := hCI.hK
  exact catOpen_old hG hE hCI.room ⟨hCI.g1, by omega⟩ hCI.files hCI.pend rfl hCI.ne hCI.rl (by omega) (by omega) (by omega) hw hp hD
end
end Go.Proofs.YteejmoldhbfdnaaGreatDoor.Law13
