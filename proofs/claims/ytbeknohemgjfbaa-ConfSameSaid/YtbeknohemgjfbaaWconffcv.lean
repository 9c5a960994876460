import Derived.Test.YtbeknohemgjfbaaKcv
import Derived.Test.YtbeknohemgjfbaaQcv
import Derived.Test.YtbeknohemgjfbaaWcodecacv
import Derived.Test.YtbeknohemgjfbaaWconfecv
import Derived.Test.YtbeknohemgjfbaaWslicesacv
namespace Go.Proofs.Ytbeknohemgjfbaa.W
open Go Go.Proofs Go.Proofs.Ytbeknohemgjfbaa.L Go.Proofs.Ytbeknohemgjfbaa.Pu
set_option linter.unusedVariables false
set_option maxHeartbeats 4000000

theorem c_conf_Put (p1 : Int × Int × Int × Int × Int × Int × (List (Int × Int)) × Int × Int) (A1 : Option Addr) (c1 : Nat) (r : List Int) (H : conf_Put p1 = some r) :
  Ctr Try.prog 49 [.agg #[.int .i64 p1.1, .int .i64 p1.2.1, .int .u64 p1.2.2.1, .int .u64 p1.2.2.2.1, .int .i64 p1.2.2.2.2.1, .int .i64 p1.2.2.2.2.2.1, .slice A1 p1.2.2.2.2.2.2.1.length c1, .int .i64 p1.2.2.2.2.2.2.2.1, .int .i64 p1.2.2.2.2.2.2.2.2]] [] [slF rp_u64_u64 A1 c1 p1.2.2.2.2.2.2.1] (fun ret M' F' => ∃ m : Option Addr × Nat, ret = .slice m.1 r.length m.2 ∧ M' = [] ∧ F' = [slF (rInt .u8) m.1 m.2 r]) := by
 unfold conf_Put at H
 refine ctr_ofI (N := 63) Try.func49 rfl Try.ntmps49 rfl (Nat.le_of_ble_eq_true rfl) (fun γ0 w0 => ?_)
 refine Tr.seq ?_
 refine Tr.region ?_
 refine TrL.cons rfl (op_box' rfl (bl rfl) rfl rfl rfl (fun b74 => ?_))
 refine TrL.v (v_assign rfl rfl) rfl rfl (bl rfl) ?_
 refine TrL.nil (qthen_n ?_)
 refine Tr.seq ?_
 refine Tr.seq ?_
 refine Tr.region ?_
 refine TrL.v (v_load (k := 0) rfl rfl rfl ty91 nofun rfl rfl) rfl rfl (bl rfl) ?_
 obtain ⟨r14, hr14, H⟩ := bnd H
 refine TrL.cons rfl (op_call0' (vs := [.agg #[.int .i64 p1.1, .int .i64 p1.2.1, .int .u64 p1.2.2.1, .int .u64 p1.2.2.2.1, .int .i64 p1.2.2.2.2.1, .int .i64 p1.2.2.2.2.2.1, .slice A1 p1.2.2.2.2.2.2.1.length c1, .int .i64 p1.2.2.2.2.2.2.2.1, .int .i64 p1.2.2.2.2.2.2.2.2]]) (cap := []) [0] rfl rfl (bl rfl) rfl rfl en47 (c_conf_Check p1 A1 c1 r14 hr14) rfl (fun ret M' F' hR292 => ?_))
 obtain ⟨rfl, rfl, rfl⟩ := hR292
 refine TrL.v (v_arith rfl rfl rfl ar_neq) rfl rfl (bl rfl) ?_
 refine TrL.nil (qthen_n ?_)
 rcases ifc H with ⟨h13, H⟩ | ⟨h13, H⟩
 ·refine Tr.cond_t rfl (bt_dec h13) ?_
  refine Tr.seq ?_
  refine Tr.region ?_
  refine TrL.v (v_assign rfl rfl) rfl rfl (bl rfl) ?_
  refine TrL.nil (qthen_n ?_)
  have hz := Option.some.inj H
  subst hz
  refine Tr.ret (qthen_r (ret_r ⟨[(2, .slice none 0 0)], [], [slF (rInt .u8) none 0 (([] : List Int))], []⟩ [.slice none 0 0] [] [] (Imp.addF' _ (nilF (rInt .u8)) (Imp.re _ [] [1] (sc rfl sn) (by decide) rfl rfl rfl)) rfl rfl ⟨((none, 0)), rfl, rfl, rfl⟩ (.cons (resv_tmp rfl) .nil)))
 ·refine Tr.cond_f rfl (bf_dec h13) ?_
  refine Tr.skip (qthen_n ?_)
  refine Tr.seq ?_
  refine Tr.regionD drawn (fun hok => ?_)
  obtain ⟨r15, hr15, H⟩ := bnd H
  obtain ⟨r16, hr16, H⟩ := bnd H
  obtain ⟨r17, hr17, H⟩ := bnd H
  obtain ⟨r18, hr18, H⟩ := bnd H
  obtain ⟨r19, hr19, H⟩ := bnd H
  refine TrAny.cut (ι := Nat × Option Addr × Nat × Option Nat) (fun m441 => ⟨[(1, .pointer (some ⟨b74, 0, none⟩)), (3, .pointer (some ⟨m441.1, 0, none⟩))], [cells b74 [.int .i64 p1.1, .int .i64 p1.2.1, .int .u64 p1.2.2.1, .int .u64 p1.2.2.2.1, .int .i64 p1.2.2.2.2.1, .int .i64 p1.2.2.2.2.2.1, .slice A1 p1.2.2.2.2.2.2.1.length c1, .int .i64 p1.2.2.2.2.2.2.2.1, .int .i64 p1.2.2.2.2.2.2.2.2] 91, cells m441.1 [.slice m441.2.1 r19.length m441.2.2.1] 40, grow 5 1 (.slice m441.2.1 r19.length m441.2.2.1) r19.length m441.2.2.2], [slF rp_u64_u64 A1 c1 p1.2.2.2.2.2.2.1, slF (rInt .u8) m441.2.1 m441.2.2.1 r19], []⟩) ?_ (fun m441 => ?_)
  ·refine TrAny.prom (i := 0) (d := 8) hok (OpVal.plain rfl rfl (v_fieldAddr' rfl fo91_0 rfl rfl)) (by kernel_rfl) rfl (bl rfl) ?_
   clear hok
   intro hok
   refine TrAny.prom (i := 1) (d := 9) hok (OpVal.plain rfl rfl (v_load (k := 0) rfl rfl rfl ty3 (fun _ => rfl) rfl rfl)) (by kernel_rfl) rfl (bl rfl) ?_
   clear hok
   intro hok
   refine TrAny.prom (i := 4) (d := 12) hok (OpVal.plain rfl rfl (v_fieldAddr' rfl fo91_2 rfl rfl)) (by kernel_rfl) rfl (bl rfl) ?_
   clear hok
   intro hok
   refine TrAny.prom (i := 5) (d := 13) hok (OpVal.plain rfl rfl (v_load (k := 0) rfl rfl rfl ty28 (fun _ => rfl) rfl rfl)) (by kernel_rfl) rfl (bl rfl) ?_
   clear hok
   intro hok
   refine TrAny.prom (i := 7) (d := 15) hok (OpVal.plain rfl rfl (v_fieldAddr' rfl fo91_3 rfl rfl)) (by kernel_rfl) rfl (bl rfl) ?_
   clear hok
   intro hok
   refine TrAny.prom (i := 8) (d := 16) hok (OpVal.plain rfl rfl (v_load (k := 0) rfl rfl rfl ty28 (fun _ => rfl) rfl rfl)) (by kernel_rfl) rfl (bl rfl) ?_
   clear hok
   intro hok
   refine TrAny.prom (i := 10) (d := 18) hok (OpVal.plain rfl rfl (v_fieldAddr' rfl fo91_4 rfl rfl)) (by kernel_rfl) rfl (bl rfl) ?_
   clear hok
   intro hok
   refine TrAny.prom (i := 11) (d := 19) hok (OpVal.plain rfl rfl (v_load (k := 0) rfl rfl rfl ty3 (fun _ => rfl) rfl rfl)) (by kernel_rfl) rfl (bl rfl) ?_
   clear hok
   intro hok
   refine TrAny.fork [2, 12, 16] (by kernel_rfl) hok ⟨2, by decide, bl rfl⟩ (by kernel_rfl) (.cons ?_ (.cons ?_ (.cons ?_ .nil)))
   ·refine step_n rfl (by kernel_rfl) rfl (op_buildSlice' (rp := (rInt .i64)) (xs := [p1.1]) (vs := [.int .i64 p1.1]) (out := [.int .i64 p1.1]) rfl (bl rfl) rfl sl221 ty3 ze3 rfl rfl (by decide) (by decide) rfl (fun γ w hF => (rowc rfl rown rfl)) (fun A218 => ?_))
    refine nxp hok (kp_imp (kp_cf rfl)) rfl (by kernel_rfl) ?_
    clear hok
    intro hok
    refine TrAny.fork [3, 12, 16] (by kernel_rfl) hok ⟨3, by decide, bl rfl⟩ (by kernel_rfl) (.cons ?_ (.cons ?_ (.cons ?_ .nil)))
    ·refine step_n rfl (by kernel_rfl) rfl (op_call0' (vs := [.slice A218 1 1]) (cap := []) [1] rfl rfl (bl rfl) rfl rfl en105 (c_conf_nums ([p1.1]) A218 1 r15 hr15) rfl (fun ret M' F' hR437 => ?_))
     obtain ⟨m442, rfl, rfl, rfl⟩ := hR437
     refine nxp hok (kp_imp (kp_c0 rfl)) rfl (by kernel_rfl) ?_
     clear hok
     intro hok
     refine TrAny.fork [6, 12, 16] (by kernel_rfl) hok ⟨6, by decide, bl rfl⟩ (by kernel_rfl) (.cons ?_ (.cons ?_ (.cons ?_ .nil)))
     ·refine step_n rfl (by kernel_rfl) rfl (op_call0' (vs := [.int .u64 p1.2.2.1]) (cap := []) [] rfl rfl (bl rfl) rfl rfl en65 (c_codec_Num p1.2.2.1 r16 hr16) rfl (fun ret M' F' hR438 => ?_))
      obtain ⟨m443, rfl, rfl, rfl⟩ := hR438
      refine nxp hok (kp_imp (kp_c0 rfl)) rfl (by kernel_rfl) ?_
      clear hok
      intro hok
      refine TrAny.fork [9, 12, 16] (by kernel_rfl) hok ⟨9, by decide, bl rfl⟩ (by kernel_rfl) (.cons ?_ (.cons ?_ (.cons ?_ .nil)))
      ·refine step_n rfl (by kernel_rfl) rfl (op_call0' (vs := [.int .u64 p1.2.2.2.1]) (cap := []) [] rfl rfl (bl rfl) rfl rfl en65 (c_codec_Num p1.2.2.2.1 r17 hr17) rfl (fun ret M' F' hR439 => ?_))
       obtain ⟨m444, rfl, rfl, rfl⟩ := hR439
       refine nxp hok (kp_imp (kp_c0 rfl)) rfl (by kernel_rfl) ?_
       clear hok
       intro hok
       refine TrAny.fork [12, 16] (by kernel_rfl) hok ⟨12, by decide, bl rfl⟩ (by kernel_rfl) (.cons ?_ (.cons ?_ .nil))
       ·refine step_n rfl (by kernel_rfl) rfl (op_buildSlice' (rp := (rInt .i64)) (xs := [p1.2.2.2.2.1]) (vs := [.int .i64 p1.2.2.2.2.1]) (out := [.int .i64 p1.2.2.2.2.1]) rfl (bl rfl) rfl sl221 ty3 ze3 rfl rfl (by decide) (by decide) rfl (fun γ w hF => (rowc rfl rown rfl)) (fun A219 => ?_))
        refine nxp hok (kp_imp (kp_cf rfl)) rfl (by kernel_rfl) ?_
        clear hok
        intro hok
        refine TrAny.fork [13, 16] (by kernel_rfl) hok ⟨13, by decide, bl rfl⟩ (by kernel_rfl) (.cons ?_ (.cons ?_ .nil))
        ·refine step_n rfl (by kernel_rfl) rfl (op_call0' (vs := [.slice A219 1 1]) (cap := []) [5] rfl rfl (bl rfl) rfl rfl en105 (c_conf_nums ([p1.2.2.2.2.1]) A219 1 r18 hr18) rfl (fun ret M' F' hR440 => ?_))
         obtain ⟨m445, rfl, rfl, rfl⟩ := hR440
         refine nxp hok (kp_imp (kp_c0 rfl)) rfl (by kernel_rfl) ?_
         clear hok
         intro hok
         refine TrAny.fork [14, 16] (by kernel_rfl) hok ⟨14, by decide, bl rfl⟩ (by kernel_rfl) (.cons ?_ (.cons ?_ .nil))
         ·refine step_n rfl (by kernel_rfl) rfl (op_buildSlice' (rp := (rSl (rInt .u8))) (xs := [r15, r16, r17, r18]) (vs := [.slice m442.1 r15.length m442.2.1, .slice m443.1 r16.length m443.2.1, .slice m444.1 r17.length m444.2.1, .slice m445.1 r18.length m445.2.1]) (out := [.slice m442.1 r15.length m442.2.1, .slice m443.1 r16.length m443.2.1, .slice m444.1 r17.length m444.2.1, .slice m445.1 r18.length m445.2.1]) rfl (bl rfl) rfl sl202 ty40 ze40 rfl rfl (by decide) (by decide) rfl (fun γ w hF => (rowc ⟨_, _, rfl, hF _ (List.mem_of_getElem? (i := 2) rfl)⟩ (rowc ⟨_, _, rfl, hF _ (List.mem_of_getElem? (i := 3) rfl)⟩ (rowc ⟨_, _, rfl, hF _ (List.mem_of_getElem? (i := 4) rfl)⟩ (rowc ⟨_, _, rfl, hF _ (List.mem_of_getElem? (i := 6) rfl)⟩ rown rfl) rfl) rfl) rfl)) (fun A220 => ?_))
          refine nxp hok (kp_imp (kp_cf rfl)) rfl (by kernel_rfl) ?_
          clear hok
          intro hok
          refine TrAny.fork [15, 16] (by kernel_rfl) hok ⟨15, by decide, bl rfl⟩ (by kernel_rfl) (.cons ?_ (.cons ?_ .nil))
          ·refine step_n rfl (by kernel_rfl) rfl (op_call0' (vs := [.slice A220 4 4]) (cap := []) [7] rfl rfl (bl rfl) rfl rfl en64 (c_slices_Concat_byte ([r15, r16, r17, r18]) A220 4 r19 hr19) rfl (fun ret M' F' hR441 => ?_))
           obtain ⟨m446, rfl, rfl, rfl⟩ := hR441
           refine nxp hok (kp_imp (kp_c0 rfl)) rfl (by kernel_rfl) ?_
           clear hok
           intro hok
           refine TrAny.next (j := 16) (by kernel_rfl) hok rfl (by kernel_rfl) (op_alloc' rfl (bl rfl) rfl ze40 (fun b111 => ?_))
           refine nxp hok (kp_imp (kp_cm rfl)) rfl (by kernel_rfl) ?_
           clear hok
           intro hok
           refine TrAny.next (j := 17) (by kernel_rfl) hok rfl (by kernel_rfl) (op_store' (k := 0) (c' := [.slice m446.1 r19.length m446.2.1]) rfl rfl rfl rfl rfl ty40 rfl (Nat.le_of_ble_eq_true rfl) (ones (oc rfl on)) rfl ?_)
           refine nxs hok (kp_aw (by kernel_rfl)) rfl ?_
           clear hok
           intro hok
           refine TrAny.done (by kernel_rfl) (by kernel_rfl) hok (by kernel_rfl) (⟨(b111, m446.1, m446.2.1, m446.2.2), Imp.re _ [6, 0, 1] [0, 8] (sc rfl (sc rfl sn)) (by decide) rfl rfl rfl⟩)
          ·refine step_n rfl (by kernel_rfl) rfl (op_alloc' rfl (bl rfl) rfl ze40 (fun b112 => ?_))
           refine nxp hok (kp_imp (kp_cm rfl)) rfl (by kernel_rfl) ?_
           clear hok
           intro hok
           refine TrAny.next (j := 15) (by kernel_rfl) hok rfl (by kernel_rfl) (op_call0' (vs := [.slice A220 4 4]) (cap := []) [7] rfl rfl (bl rfl) rfl rfl en64 (c_slices_Concat_byte ([r15, r16, r17, r18]) A220 4 r19 hr19) rfl (fun ret M' F' hR442 => ?_))
           obtain ⟨m447, rfl, rfl, rfl⟩ := hR442
           refine nxp hok (kp_imp (kp_c0 rfl)) rfl (by kernel_rfl) ?_
           clear hok
           intro hok
           refine TrAny.next (j := 17) (by kernel_rfl) hok rfl (by kernel_rfl) (op_store' (k := 1) (c' := [.slice m447.1 r19.length m447.2.1]) rfl rfl rfl rfl rfl ty40 rfl (Nat.le_of_ble_eq_true rfl) (ones (oc rfl on)) rfl ?_)
           refine nxs hok (kp_aw (by kernel_rfl)) rfl ?_
           clear hok
           intro hok
           refine TrAny.done (by kernel_rfl) (by kernel_rfl) hok (by kernel_rfl) (⟨(b112, m447.1, m447.2.1, m447.2.2), Imp.re _ [6, 1, 0] [0, 8] (sc rfl (sc rfl sn)) (by decide) rfl rfl rfl⟩)
         ·refine step_n rfl (by kernel_rfl) rfl (op_alloc' rfl (bl rfl) rfl ze40 (fun b113 => ?_))
          refine nxp hok (kp_imp (kp_cm rfl)) rfl (by kernel_rfl) ?_
          clear hok
          intro hok
          refine TrAny.next (j := 14) (by kernel_rfl) hok rfl (by kernel_rfl) (op_buildSlice' (rp := (rSl (rInt .u8))) (xs := [r15, r16, r17, r18]) (vs := [.slice m442.1 r15.length m442.2.1, .slice m443.1 r16.length m443.2.1, .slice m444.1 r17.length m444.2.1, .slice m445.1 r18.length m445.2.1]) (out := [.slice m442.1 r15.length m442.2.1, .slice m443.1 r16.length m443.2.1, .slice m444.1 r17.length m444.2.1, .slice m445.1 r18.length m445.2.1]) rfl (bl rfl) rfl sl202 ty40 ze40 rfl rfl (by decide) (by decide) rfl (fun γ w hF => (rowc ⟨_, _, rfl, hF _ (List.mem_of_getElem? (i := 2) rfl)⟩ (rowc ⟨_, _, rfl, hF _ (List.mem_of_getElem? (i := 3) rfl)⟩ (rowc ⟨_, _, rfl, hF _ (List.mem_of_getElem? (i := 4) rfl)⟩ (rowc ⟨_, _, rfl, hF _ (List.mem_of_getElem? (i := 6) rfl)⟩ rown rfl) rfl) rfl) rfl)) (fun A221 => ?_))
          refine nxp hok (kp_imp (kp_cf rfl)) rfl (by kernel_rfl) ?_
          clear hok
          intro hok
          refine TrAny.next (j := 15) (by kernel_rfl) hok rfl (by kernel_rfl) (op_call0' (vs := [.slice A221 4 4]) (cap := []) [7] rfl rfl (bl rfl) rfl rfl en64 (c_slices_Concat_byte ([r15, r16, r17, r18]) A221 4 r19 hr19) rfl (fun ret M' F' hR443 => ?_))
          obtain ⟨m448, rfl, rfl, rfl⟩ := hR443
          refine nxp hok (kp_imp (kp_c0 rfl)) rfl (by kernel_rfl) ?_
          clear hok
          intro hok
          refine TrAny.next (j := 17) (by kernel_rfl) hok rfl (by kernel_rfl) (op_store' (k := 1) (c' := [.slice m448.1 r19.length m448.2.1]) rfl rfl rfl rfl rfl ty40 rfl (Nat.le_of_ble_eq_true rfl) (ones (oc rfl on)) rfl ?_)
          refine nxs hok (kp_aw (by kernel_rfl)) rfl ?_
          clear hok
          intro hok
          refine TrAny.done (by kernel_rfl) (by kernel_rfl) hok (by kernel_rfl) (⟨(b113, m448.1, m448.2.1, m448.2.2), Imp.re _ [6, 1, 0] [0, 8] (sc rfl (sc rfl sn)) (by decide) rfl rfl rfl⟩)
        ·refine step_n rfl (by kernel_rfl) rfl (op_alloc' rfl (bl rfl) rfl ze40 (fun b114 => ?_))
         refine nxp hok (kp_imp (kp_cm rfl)) rfl (by kernel_rfl) ?_
         clear hok
         intro hok
         refine TrAny.next (j := 13) (by kernel_rfl) hok rfl (by kernel_rfl) (op_call0' (vs := [.slice A219 1 1]) (cap := []) [5] rfl rfl (bl rfl) rfl rfl en105 (c_conf_nums ([p1.2.2.2.2.1]) A219 1 r18 hr18) rfl (fun ret M' F' hR444 => ?_))
         obtain ⟨m449, rfl, rfl, rfl⟩ := hR444
         refine nxp hok (kp_imp (kp_c0 rfl)) rfl (by kernel_rfl) ?_
         clear hok
         intro hok
         refine TrAny.next (j := 14) (by kernel_rfl) hok rfl (by kernel_rfl) (op_buildSlice' (rp := (rSl (rInt .u8))) (xs := [r15, r16, r17, r18]) (vs := [.slice m442.1 r15.length m442.2.1, .slice m443.1 r16.length m443.2.1, .slice m444.1 r17.length m444.2.1, .slice m449.1 r18.length m449.2.1]) (out := [.slice m442.1 r15.length m442.2.1, .slice m443.1 r16.length m443.2.1, .slice m444.1 r17.length m444.2.1, .slice m449.1 r18.length m449.2.1]) rfl (bl rfl) rfl sl202 ty40 ze40 rfl rfl (by decide) (by decide) rfl (fun γ w hF => (rowc ⟨_, _, rfl, hF _ (List.mem_of_getElem? (i := 2) rfl)⟩ (rowc ⟨_, _, rfl, hF _ (List.mem_of_getElem? (i := 3) rfl)⟩ (rowc ⟨_, _, rfl, hF _ (List.mem_of_getElem? (i := 4) rfl)⟩ (rowc ⟨_, _, rfl, hF _ (List.mem_of_getElem? (i := 6) rfl)⟩ rown rfl) rfl) rfl) rfl)) (fun A222 => ?_))
         refine nxp hok (kp_imp (kp_cf rfl)) rfl (by kernel_rfl) ?_
         clear hok
         intro hok
         refine TrAny.next (j := 15) (by kernel_rfl) hok rfl (by kernel_rfl) (op_call0' (vs := [.slice A222 4 4]) (cap := []) [7] rfl rfl (bl rfl) rfl rfl en64 (c_slices_Concat_byte ([r15, r16, r17, r18]) A222 4 r19 hr19) rfl (fun ret M' F' hR445 => ?_))
         obtain ⟨m450, rfl, rfl, rfl⟩ := hR445
         refine nxp hok (kp_imp (kp_c0 rfl)) rfl (by kernel_rfl) ?_
         clear hok
         intro hok
         refine TrAny.next (j := 17) (by kernel_rfl) hok rfl (by kernel_rfl) (op_store' (k := 2) (c' := [.slice m450.1 r19.length m450.2.1]) rfl rfl rfl rfl rfl ty40 rfl (Nat.le_of_ble_eq_true rfl) (ones (oc rfl on)) rfl ?_)
         refine nxs hok (kp_aw (by kernel_rfl)) rfl ?_
         clear hok
         intro hok
         refine TrAny.done (by kernel_rfl) (by kernel_rfl) hok (by kernel_rfl) (⟨(b114, m450.1, m450.2.1, m450.2.2), Imp.re _ [6, 2, 0] [0, 8] (sc rfl (sc rfl sn)) (by decide) rfl rfl rfl⟩)
       ·refine step_n rfl (by kernel_rfl) rfl (op_alloc' rfl (bl rfl) rfl ze40 (fun b115 => ?_))
        refine nxp hok (kp_imp (kp_cm rfl)) rfl (by kernel_rfl) ?_
        clear hok
        intro hok
        refine TrAny.next (j := 12) (by kernel_rfl) hok rfl (by kernel_rfl) (op_buildSlice' (rp := (rInt .i64)) (xs := [p1.2.2.2.2.1]) (vs := [.int .i64 p1.2.2.2.2.1]) (out := [.int .i64 p1.2.2.2.2.1]) rfl (bl rfl) rfl sl221 ty3 ze3 rfl rfl (by decide) (by decide) rfl (fun γ w hF => (rowc rfl rown rfl)) (fun A223 => ?_))
        refine nxp hok (kp_imp (kp_cf rfl)) rfl (by kernel_rfl) ?_
        clear hok
        intro hok
        refine TrAny.next (j := 13) (by kernel_rfl) hok rfl (by kernel_rfl) (op_call0' (vs := [.slice A223 1 1]) (cap := []) [5] rfl rfl (bl rfl) rfl rfl en105 (c_conf_nums ([p1.2.2.2.2.1]) A223 1 r18 hr18) rfl (fun ret M' F' hR446 => ?_))
        obtain ⟨m451, rfl, rfl, rfl⟩ := hR446
        refine nxp hok (kp_imp (kp_c0 rfl)) rfl (by kernel_rfl) ?_
        clear hok
        intro hok
        refine TrAny.next (j := 14) (by kernel_rfl) hok rfl (by kernel_rfl) (op_buildSlice' (rp := (rSl (rInt .u8))) (xs := [r15, r16, r17, r18]) (vs := [.slice m442.1 r15.length m442.2.1, .slice m443.1 r16.length m443.2.1, .slice m444.1 r17.length m444.2.1, .slice m451.1 r18.length m451.2.1]) (out := [.slice m442.1 r15.length m442.2.1, .slice m443.1 r16.length m443.2.1, .slice m444.1 r17.length m444.2.1, .slice m451.1 r18.length m451.2.1]) rfl (bl rfl) rfl sl202 ty40 ze40 rfl rfl (by decide) (by decide) rfl (fun γ w hF => (rowc ⟨_, _, rfl, hF _ (List.mem_of_getElem? (i := 2) rfl)⟩ (rowc ⟨_, _, rfl, hF _ (List.mem_of_getElem? (i := 3) rfl)⟩ (rowc ⟨_, _, rfl, hF _ (List.mem_of_getElem? (i := 4) rfl)⟩ (rowc ⟨_, _, rfl, hF _ (List.mem_of_getElem? (i := 6) rfl)⟩ rown rfl) rfl) rfl) rfl)) (fun A224 => ?_))
        refine nxp hok (kp_imp (kp_cf rfl)) rfl (by kernel_rfl) ?_
        clear hok
        intro hok
        refine TrAny.next (j := 15) (by kernel_rfl) hok rfl (by kernel_rfl) (op_call0' (vs := [.slice A224 4 4]) (cap := []) [7] rfl rfl (bl rfl) rfl rfl en64 (c_slices_Concat_byte ([r15, r16, r17, r18]) A224 4 r19 hr19) rfl (fun ret M' F' hR447 => ?_))
        obtain ⟨m452, rfl, rfl, rfl⟩ := hR447
        refine nxp hok (kp_imp (kp_c0 rfl)) rfl (by kernel_rfl) ?_
        clear hok
        intro hok
        refine TrAny.next (j := 17) (by kernel_rfl) hok rfl (by kernel_rfl) (op_store' (k := 2) (c' := [.slice m452.1 r19.length m452.2.1]) rfl rfl rfl rfl rfl ty40 rfl (Nat.le_of_ble_eq_true rfl) (ones (oc rfl on)) rfl ?_)
        refine nxs hok (kp_aw (by kernel_rfl)) rfl ?_
        clear hok
        intro hok
        refine TrAny.done (by kernel_rfl) (by kernel_rfl) hok (by kernel_rfl) (⟨(b115, m452.1, m452.2.1, m452.2.2), Imp.re _ [6, 2, 0] [0, 8] (sc rfl (sc rfl sn)) (by decide) rfl rfl rfl⟩)
      ·refine step_n rfl (by kernel_rfl) rfl (op_buildSlice' (rp := (rInt .i64)) (xs := [p1.2.2.2.2.1]) (vs := [.int .i64 p1.2.2.2.2.1]) (out := [.int .i64 p1.2.2.2.2.1]) rfl (bl rfl) rfl sl221 ty3 ze3 rfl rfl (by decide) (by decide) rfl (fun γ w hF => (rowc rfl rown rfl)) (fun A225 => ?_))
       refine nxp hok (kp_imp (kp_cf rfl)) rfl (by kernel_rfl) ?_
       clear hok
       intro hok
       refine TrAny.fork [9, 16] (by kernel_rfl) hok ⟨9, by decide, bl rfl⟩ (by kernel_rfl) (.cons ?_ (.cons ?_ .nil))
       ·refine step_n rfl (by kernel_rfl) rfl (op_call0' (vs := [.int .u64 p1.2.2.2.1]) (cap := []) [] rfl rfl (bl rfl) rfl rfl en65 (c_codec_Num p1.2.2.2.1 r17 hr17) rfl (fun ret M' F' hR448 => ?_))
        obtain ⟨m453, rfl, rfl, rfl⟩ := hR448
        refine nxp hok (kp_imp (kp_c0 rfl)) rfl (by kernel_rfl) ?_
        clear hok
        intro hok
        refine TrAny.fork [13, 16] (by kernel_rfl) hok ⟨13, by decide, bl rfl⟩ (by kernel_rfl) (.cons ?_ (.cons ?_ .nil))
        ·refine step_n rfl (by kernel_rfl) rfl (op_call0' (vs := [.slice A225 1 1]) (cap := []) [4] rfl rfl (bl rfl) rfl rfl en105 (c_conf_nums ([p1.2.2.2.2.1]) A225 1 r18 hr18) rfl (fun ret M' F' hR449 => ?_))
         obtain ⟨m454, rfl, rfl, rfl⟩ := hR449
         refine nxp hok (kp_imp (kp_c0 rfl)) rfl (by kernel_rfl) ?_
         clear hok
         intro hok
         refine TrAny.fork [14, 16] (by kernel_rfl) hok ⟨14, by decide, bl rfl⟩ (by kernel_rfl) (.cons ?_ (.cons ?_ .nil))
         ·refine step_n rfl (by kernel_rfl) rfl (op_buildSlice' (rp := (rSl (rInt .u8))) (xs := [r15, r16, r17, r18]) (vs := [.slice m442.1 r15.length m442.2.1, .slice m443.1 r16.length m443.2.1, .slice m453.1 r17.length m453.2.1, .slice m454.1 r18.length m454.2.1]) (out := [.slice m442.1 r15.length m442.2.1, .slice m443.1 r16.length m443.2.1, .slice m453.1 r17.length m453.2.1, .slice m454.1 r18.length m454.2.1]) rfl (bl rfl) rfl sl202 ty40 ze40 rfl rfl (by decide) (by decide) rfl (fun γ w hF => (rowc ⟨_, _, rfl, hF _ (List.mem_of_getElem? (i := 2) rfl)⟩ (rowc ⟨_, _, rfl, hF _ (List.mem_of_getElem? (i := 3) rfl)⟩ (rowc ⟨_, _, rfl, hF _ (List.mem_of_getElem? (i := 5) rfl)⟩ (rowc ⟨_, _, rfl, hF _ (List.mem_of_getElem? (i := 6) rfl)⟩ rown rfl) rfl) rfl) rfl)) (fun A226 => ?_))
          refine nxp hok (kp_imp (kp_cf rfl)) rfl (by kernel_rfl) ?_
          clear hok
          intro hok
          refine TrAny.fork [15, 16] (by kernel_rfl) hok ⟨15, by decide, bl rfl⟩ (by kernel_rfl) (.cons ?_ (.cons ?_ .nil))
          ·refine step_n rfl (by kernel_rfl) rfl (op_call0' (vs := [.slice A226 4 4]) (cap := []) [7] rfl rfl (bl rfl) rfl rfl en64 (c_slices_Concat_byte ([r15, r16, r17, r18]) A226 4 r19 hr19) rfl (fun ret M' F' hR450 => ?_))
           obtain ⟨m455, rfl, rfl, rfl⟩ := hR450
           refine nxp hok (kp_imp (kp_c0 rfl)) rfl (by kernel_rfl) ?_
           clear hok
           intro hok
           refine TrAny.next (j := 16) (by kernel_rfl) hok rfl (by kernel_rfl) (op_alloc' rfl (bl rfl) rfl ze40 (fun b116 => ?_))
           refine nxp hok (kp_imp (kp_cm rfl)) rfl (by kernel_rfl) ?_
           clear hok
           intro hok
           refine TrAny.next (j := 17) (by kernel_rfl) hok rfl (by kernel_rfl) (op_store' (k := 0) (c' := [.slice m455.1 r19.length m455.2.1]) rfl rfl rfl rfl rfl ty40 rfl (Nat.le_of_ble_eq_true rfl) (ones (oc rfl on)) rfl ?_)
           refine nxs hok (kp_aw (by kernel_rfl)) rfl ?_
           clear hok
           intro hok
           refine TrAny.done (by kernel_rfl) (by kernel_rfl) hok (by kernel_rfl) (⟨(b116, m455.1, m455.2.1, m455.2.2), Imp.re _ [6, 0, 1] [0, 8] (sc rfl (sc rfl sn)) (by decide) rfl rfl rfl⟩)
          ·refine step_n rfl (by kernel_rfl) rfl (op_alloc' rfl (bl rfl) rfl ze40 (fun b117 => ?_))
           refine nxp hok (kp_imp (kp_cm rfl)) rfl (by kernel_rfl) ?_
           clear hok
           intro hok
           refine TrAny.next (j := 15) (by kernel_rfl) hok rfl (by kernel_rfl) (op_call0' (vs := [.slice A226 4 4]) (cap := []) [7] rfl rfl (bl rfl) rfl rfl en64 (c_slices_Concat_byte ([r15, r16, r17, r18]) A226 4 r19 hr19) rfl (fun ret M' F' hR451 => ?_))
           obtain ⟨m456, rfl, rfl, rfl⟩ := hR451
           refine nxp hok (kp_imp (kp_c0 rfl)) rfl (by kernel_rfl) ?_
           clear hok
           intro hok
           refine TrAny.next (j := 17) (by kernel_rfl) hok rfl (by kernel_rfl) (op_store' (k := 1) (c' := [.slice m456.1 r19.length m456.2.1]) rfl rfl rfl rfl rfl ty40 rfl (Nat.le_of_ble_eq_true rfl) (ones (oc rfl on)) rfl ?_)
           refine nxs hok (kp_aw (by kernel_rfl)) rfl ?_
           clear hok
           intro hok
           refine TrAny.done (by kernel_rfl) (by kernel_rfl) hok (by kernel_rfl) (⟨(b117, m456.1, m456.2.1, m456.2.2), Imp.re _ [6, 1, 0] [0, 8] (sc rfl (sc rfl sn)) (by decide) rfl rfl rfl⟩)
         ·refine step_n rfl (by kernel_rfl) rfl (op_alloc' rfl (bl rfl) rfl ze40 (fun b118 => ?_))
          refine nxp hok (kp_imp (kp_cm rfl)) rfl (by kernel_rfl) ?_
          clear hok
          intro hok
          refine TrAny.next (j := 14) (by kernel_rfl) hok rfl (by kernel_rfl) (op_buildSlice' (rp := (rSl (rInt .u8))) (xs := [r15, r16, r17, r18]) (vs := [.slice m442.1 r15.length m442.2.1, .slice m443.1 r16.length m443.2.1, .slice m453.1 r17.length m453.2.1, .slice m454.1 r18.length m454.2.1]) (out := [.slice m442.1 r15.length m442.2.1, .slice m443.1 r16.length m443.2.1, .slice m453.1 r17.length m453.2.1, .slice m454.1 r18.length m454.2.1]) rfl (bl rfl) rfl sl202 ty40 ze40 rfl rfl (by decide) (by decide) rfl (fun γ w hF => (rowc ⟨_, _, rfl, hF _ (List.mem_of_getElem? (i := 2) rfl)⟩ (rowc ⟨_, _, rfl, hF _ (List.mem_of_getElem? (i := 3) rfl)⟩ (rowc ⟨_, _, rfl, hF _ (List.mem_of_getElem? (i := 5) rfl)⟩ (rowc ⟨_, _, rfl, hF _ (List.mem_of_getElem? (i := 6) rfl)⟩ rown rfl) rfl) rfl) rfl)) (fun A227 => ?_))
          refine nxp hok (kp_imp (kp_cf rfl)) rfl (by kernel_rfl) ?_
          clear hok
          intro hok
          refine TrAny.next (j := 15) (by kernel_rfl) hok rfl (by kernel_rfl) (op_call0' (vs := [.slice A227 4 4]) (cap := []) [7] rfl rfl (bl rfl) rfl rfl en64 (c_slices_Concat_byte ([r15, r16, r17, r18]) A227 4 r19 hr19) rfl (fun ret M' F' hR452 => ?_))
          obtain ⟨m457, rfl, rfl, rfl⟩ := hR452
          refine nxp hok (kp_imp (kp_c0 rfl)) rfl (by kernel_rfl) ?_
          clear hok
          intro hok
          refine TrAny.next (j := 17) (by kernel_rfl) hok rfl (by kernel_rfl) (op_store' (k := 1) (c' := [.slice m457.1 r19.length m457.2.1]) rfl rfl rfl rfl rfl ty40 rfl (Nat.le_of_ble_eq_true rfl) (ones (oc rfl on)) rfl ?_)
          refine nxs hok (kp_aw (by kernel_rfl)) rfl ?_
          clear hok
          intro hok
          refine TrAny.done (by kernel_rfl) (by kernel_rfl) hok (by kernel_rfl) (⟨(b118, m457.1, m457.2.1, m457.2.2), Imp.re _ [6, 1, 0] [0, 8] (sc rfl (sc rfl sn)) (by decide) rfl rfl rfl⟩)
        ·refine step_n rfl (by kernel_rfl) rfl (op_alloc' rfl (bl rfl) rfl ze40 (fun b119 => ?_))
         refine nxp hok (kp_imp (kp_cm rfl)) rfl (by kernel_rfl) ?_
         clear hok
         intro hok
         refine TrAny.next (j := 13) (by kernel_rfl) hok rfl (by kernel_rfl) (op_call0' (vs := [.slice A225 1 1]) (cap := []) [4] rfl rfl (bl rfl) rfl rfl en105 (c_conf_nums ([p1.2.2.2.2.1]) A225 1 r18 hr18) rfl (fun ret M' F' hR453 => ?_))
         obtain ⟨m458, rfl, rfl, rfl⟩ := hR453
         refine nxp hok (kp_imp (kp_c0 rfl)) rfl (by kernel_rfl) ?_
         clear hok
         intro hok
         refine TrAny.next (j := 14) (by kernel_rfl) hok rfl (by kernel_rfl) (op_buildSlice' (rp := (rSl (rInt .u8))) (xs := [r15, r16, r17, r18]) (vs := [.slice m442.1 r15.length m442.2.1, .slice m443.1 r16.length m443.2.1, .slice m453.1 r17.length m453.2.1, .slice m458.1 r18.length m458.2.1]) (out := [.slice m442.1 r15.length m442.2.1, .slice m443.1 r16.length m443.2.1, .slice m453.1 r17.length m453.2.1, .slice m458.1 r18.length m458.2.1]) rfl (bl rfl) rfl sl202 ty40 ze40 rfl rfl (by decide) (by decide) rfl (fun γ w hF => (rowc ⟨_, _, rfl, hF _ (List.mem_of_getElem? (i := 2) rfl)⟩ (rowc ⟨_, _, rfl, hF _ (List.mem_of_getElem? (i := 3) rfl)⟩ (rowc ⟨_, _, rfl, hF _ (List.mem_of_getElem? (i := 5) rfl)⟩ (rowc ⟨_, _, rfl, hF _ (List.mem_of_getElem? (i := 6) rfl)⟩ rown rfl) rfl) rfl) rfl)) (fun A228 => ?_))
         refine nxp hok (kp_imp (kp_cf rfl)) rfl (by kernel_rfl) ?_
         clear hok
         intro hok
         refine TrAny.next (j := 15) (by kernel_rfl) hok rfl (by kernel_rfl) (op_call0' (vs := [.slice A228 4 4]) (cap := []) [7] rfl rfl (bl rfl) rfl rfl en64 (c_slices_Concat_byte ([r15, r16, r17, r18]) A228 4 r19 hr19) rfl (fun ret M' F' hR454 => ?_))
         obtain ⟨m459, rfl, rfl, rfl⟩ := hR454
         refine nxp hok (kp_imp (kp_c0 rfl)) rfl (by kernel_rfl) ?_
         clear hok
         intro hok
         refine TrAny.next (j := 17) (by kernel_rfl) hok rfl (by kernel_rfl) (op_store' (k := 2) (c' := [.slice m459.1 r19.length m459.2.1]) rfl rfl rfl rfl rfl ty40 rfl (Nat.le_of_ble_eq_true rfl) (ones (oc rfl on)) rfl ?_)
         refine nxs hok (kp_aw (by kernel_rfl)) rfl ?_
         clear hok
         intro hok
         refine TrAny.done (by kernel_rfl) (by kernel_rfl) hok (by kernel_rfl) (⟨(b119, m459.1, m459.2.1, m459.2.2), Imp.re _ [6, 2, 0] [0, 8] (sc rfl (sc rfl sn)) (by decide) rfl rfl rfl⟩)
       ·refine step_n rfl (by kernel_rfl) rfl (op_alloc' rfl (bl rfl) rfl ze40 (fun b120 => ?_))
        refine nxp hok (kp_imp (kp_cm rfl)) rfl (by kernel_rfl) ?_
        clear hok
        intro hok
        refine TrAny.next (j := 9) (by kernel_rfl) hok rfl (by kernel_rfl) (op_call0' (vs := [.int .u64 p1.2.2.2.1]) (cap := []) [] rfl rfl (bl rfl) rfl rfl en65 (c_codec_Num p1.2.2.2.1 r17 hr17) rfl (fun ret M' F' hR455 => ?_))
        obtain ⟨m460, rfl, rfl, rfl⟩ := hR455
        refine nxp hok (kp_imp (kp_c0 rfl)) rfl (by kernel_rfl) ?_
        clear hok
        intro hok
        refine TrAny.next (j := 13) (by kernel_rfl) hok rfl (by kernel_rfl) (op_call0' (vs := [.slice A225 1 1]) (cap := []) [4] rfl rfl (bl rfl) rfl rfl en105 (c_conf_nums ([p1.2.2.2.2.1]) A225 1 r18 hr18) rfl (fun ret M' F' hR456 => ?_))
        obtain ⟨m461, rfl, rfl, rfl⟩ := hR456
        refine nxp hok (kp_imp (kp_c0 rfl)) rfl (by kernel_rfl) ?_
        clear hok
        intro hok
        refine TrAny.next (j := 14) (by kernel_rfl) hok rfl (by kernel_rfl) (op_buildSlice' (rp := (rSl (rInt .u8))) (xs := [r15, r16, r17, r18]) (vs := [.slice m442.1 r15.length m442.2.1, .slice m443.1 r16.length m443.2.1, .slice m460.1 r17.length m460.2.1, .slice m461.1 r18.length m461.2.1]) (out := [.slice m442.1 r15.length m442.2.1, .slice m443.1 r16.length m443.2.1, .slice m460.1 r17.length m460.2.1, .slice m461.1 r18.length m461.2.1]) rfl (bl rfl) rfl sl202 ty40 ze40 rfl rfl (by decide) (by decide) rfl (fun γ w hF => (rowc ⟨_, _, rfl, hF _ (List.mem_of_getElem? (i := 2) rfl)⟩ (rowc ⟨_, _, rfl, hF _ (List.mem_of_getElem? (i := 3) rfl)⟩ (rowc ⟨_, _, rfl, hF _ (List.mem_of_getElem? (i := 5) rfl)⟩ (rowc ⟨_, _, rfl, hF _ (List.mem_of_getElem? (i := 6) rfl)⟩ rown rfl) rfl) rfl) rfl)) (fun A229 => ?_))
        refine nxp hok (kp_imp (kp_cf rfl)) rfl (by kernel_rfl) ?_
        clear hok
        intro hok
        refine TrAny.next (j := 15) (by kernel_rfl) hok rfl (by kernel_rfl) (op_call0' (vs := [.slice A229 4 4]) (cap := []) [7] rfl rfl (bl rfl) rfl rfl en64 (c_slices_Concat_byte ([r15, r16, r17, r18]) A229 4 r19 hr19) rfl (fun ret M' F' hR457 => ?_))
        obtain ⟨m462, rfl, rfl, rfl⟩ := hR457
        refine nxp hok (kp_imp (kp_c0 rfl)) rfl (by kernel_rfl) ?_
        clear hok
        intro hok
        refine TrAny.next (j := 17) (by kernel_rfl) hok rfl (by kernel_rfl) (op_store' (k := 3) (c' := [.slice m462.1 r19.length m462.2.1]) rfl rfl rfl rfl rfl ty40 rfl (Nat.le_of_ble_eq_true rfl) (ones (oc rfl on)) rfl ?_)
        refine nxs hok (kp_aw (by kernel_rfl)) rfl ?_
        clear hok
        intro hok
        refine TrAny.done (by kernel_rfl) (by kernel_rfl) hok (by kernel_rfl) (⟨(b120, m462.1, m462.2.1, m462.2.2), Imp.re _ [6, 3, 0] [0, 8] (sc rfl (sc rfl sn)) (by decide) rfl rfl rfl⟩)
      ·refine step_n rfl (by kernel_rfl) rfl (op_alloc' rfl (bl rfl) rfl ze40 (fun b121 => ?_))
       refine nxp hok (kp_imp (kp_cm rfl)) rfl (by kernel_rfl) ?_
       clear hok
       intro hok
       refine TrAny.fork [9, 12] (by kernel_rfl) hok ⟨9, by decide, bl rfl⟩ (by kernel_rfl) (.cons ?_ (.cons ?_ .nil))
       ·refine step_n rfl (by kernel_rfl) rfl (op_call0' (vs := [.int .u64 p1.2.2.2.1]) (cap := []) [] rfl rfl (bl rfl) rfl rfl en65 (c_codec_Num p1.2.2.2.1 r17 hr17) rfl (fun ret M' F' hR458 => ?_))
        obtain ⟨m463, rfl, rfl, rfl⟩ := hR458
        refine nxp hok (kp_imp (kp_c0 rfl)) rfl (by kernel_rfl) ?_
        clear hok
        intro hok
        refine TrAny.next (j := 12) (by kernel_rfl) hok rfl (by kernel_rfl) (op_buildSlice' (rp := (rInt .i64)) (xs := [p1.2.2.2.2.1]) (vs := [.int .i64 p1.2.2.2.2.1]) (out := [.int .i64 p1.2.2.2.2.1]) rfl (bl rfl) rfl sl221 ty3 ze3 rfl rfl (by decide) (by decide) rfl (fun γ w hF => (rowc rfl rown rfl)) (fun A230 => ?_))
        refine nxp hok (kp_imp (kp_cf rfl)) rfl (by kernel_rfl) ?_
        clear hok
        intro hok
        refine TrAny.next (j := 13) (by kernel_rfl) hok rfl (by kernel_rfl) (op_call0' (vs := [.slice A230 1 1]) (cap := []) [5] rfl rfl (bl rfl) rfl rfl en105 (c_conf_nums ([p1.2.2.2.2.1]) A230 1 r18 hr18) rfl (fun ret M' F' hR459 => ?_))
        obtain ⟨m464, rfl, rfl, rfl⟩ := hR459
        refine nxp hok (kp_imp (kp_c0 rfl)) rfl (by kernel_rfl) ?_
        clear hok
        intro hok
        refine TrAny.next (j := 14) (by kernel_rfl) hok rfl (by kernel_rfl) (op_buildSlice' (rp := (rSl (rInt .u8))) (xs := [r15, r16, r17, r18]) (vs := [.slice m442.1 r15.length m442.2.1, .slice m443.1 r16.length m443.2.1, .slice m463.1 r17.length m463.2.1, .slice m464.1 r18.length m464.2.1]) (out := [.slice m442.1 r15.length m442.2.1, .slice m443.1 r16.length m443.2.1, .slice m463.1 r17.length m463.2.1, .slice m464.1 r18.length m464.2.1]) rfl (bl rfl) rfl sl202 ty40 ze40 rfl rfl (by decide) (by decide) rfl (fun γ w hF => (rowc ⟨_, _, rfl, hF _ (List.mem_of_getElem? (i := 2) rfl)⟩ (rowc ⟨_, _, rfl, hF _ (List.mem_of_getElem? (i := 3) rfl)⟩ (rowc ⟨_, _, rfl, hF _ (List.mem_of_getElem? (i := 4) rfl)⟩ (rowc ⟨_, _, rfl, hF _ (List.mem_of_getElem? (i := 6) rfl)⟩ rown rfl) rfl) rfl) rfl)) (fun A231 => ?_))
        refine nxp hok (kp_imp (kp_cf rfl)) rfl (by kernel_rfl) ?_
        clear hok
        intro hok
        refine TrAny.next (j := 15) (by kernel_rfl) hok rfl (by kernel_rfl) (op_call0' (vs := [.slice A231 4 4]) (cap := []) [7] rfl rfl (bl rfl) rfl rfl en64 (c_slices_Concat_byte ([r15, r16, r17, r18]) A231 4 r19 hr19) rfl (fun ret M' F' hR460 => ?_))
        obtain ⟨m465, rfl, rfl, rfl⟩ := hR460
        refine nxp hok (kp_imp (kp_c0 rfl)) rfl (by kernel_rfl) ?_
        clear hok
        intro hok
        refine TrAny.next (j := 17) (by kernel_rfl) hok rfl (by kernel_rfl) (op_store' (k := 3) (c' := [.slice m465.1 r19.length m465.2.1]) rfl rfl rfl rfl rfl ty40 rfl (Nat.le_of_ble_eq_true rfl) (ones (oc rfl on)) rfl ?_)
        refine nxs hok (kp_aw (by kernel_rfl)) rfl ?_
        clear hok
        intro hok
        refine TrAny.done (by kernel_rfl) (by kernel_rfl) hok (by kernel_rfl) (⟨(b121, m465.1, m465.2.1, m465.2.2), Imp.re _ [6, 3, 0] [0, 8] (sc rfl (sc rfl sn)) (by decide) rfl rfl rfl⟩)
       ·refine step_n rfl (by kernel_rfl) rfl (op_buildSlice' (rp := (rInt .i64)) (xs := [p1.2.2.2.2.1]) (vs := [.int .i64 p1.2.2.2.2.1]) (out := [.int .i64 p1.2.2.2.2.1]) rfl (bl rfl) rfl sl221 ty3 ze3 rfl rfl (by decide) (by decide) rfl (fun γ w hF => (rowc rfl rown rfl)) (fun A232 => ?_))
        refine nxp hok (kp_imp (kp_cf rfl)) rfl (by kernel_rfl) ?_
        clear hok
        intro hok
        refine TrAny.next (j := 9) (by kernel_rfl) hok rfl (by kernel_rfl) (op_call0' (vs := [.int .u64 p1.2.2.2.1]) (cap := []) [] rfl rfl (bl rfl) rfl rfl en65 (c_codec_Num p1.2.2.2.1 r17 hr17) rfl (fun ret M' F' hR461 => ?_))
        obtain ⟨m466, rfl, rfl, rfl⟩ := hR461
        refine nxp hok (kp_imp (kp_c0 rfl)) rfl (by kernel_rfl) ?_
        clear hok
        intro hok
        refine TrAny.next (j := 13) (by kernel_rfl) hok rfl (by kernel_rfl) (op_call0' (vs := [.slice A232 1 1]) (cap := []) [4] rfl rfl (bl rfl) rfl rfl en105 (c_conf_nums ([p1.2.2.2.2.1]) A232 1 r18 hr18) rfl (fun ret M' F' hR462 => ?_))
        obtain ⟨m467, rfl, rfl, rfl⟩ := hR462
        refine nxp hok (kp_imp (kp_c0 rfl)) rfl (by kernel_rfl) ?_
        clear hok
        intro hok
        refine TrAny.next (j := 14) (by kernel_rfl) hok rfl (by kernel_rfl) (op_buildSlice' (rp := (rSl (rInt .u8))) (xs := [r15, r16, r17, r18]) (vs := [.slice m442.1 r15.length m442.2.1, .slice m443.1 r16.length m443.2.1, .slice m466.1 r17.length m466.2.1, .slice m467.1 r18.length m467.2.1]) (out := [.slice m442.1 r15.length m442.2.1, .slice m443.1 r16.length m443.2.1, .slice m466.1 r17.length m466.2.1, .slice m467.1 r18.length m467.2.1]) rfl (bl rfl) rfl sl202 ty40 ze40 rfl rfl (by decide) (by decide) rfl (fun γ w hF => (rowc ⟨_, _, rfl, hF _ (List.mem_of_getElem? (i := 2) rfl)⟩ (rowc ⟨_, _, rfl, hF _ (List.mem_of_getElem? (i := 3) rfl)⟩ (rowc ⟨_, _, rfl, hF _ (List.mem_of_getElem? (i := 5) rfl)⟩ (rowc ⟨_, _, rfl, hF _ (List.mem_of_getElem? (i := 6) rfl)⟩ rown rfl) rfl) rfl) rfl)) (fun A233 => ?_))
        refine nxp hok (kp_imp (kp_cf rfl)) rfl (by kernel_rfl) ?_
        clear hok
        intro hok
        refine TrAny.next (j := 15) (by kernel_rfl) hok rfl (by kernel_rfl) (op_call0' (vs := [.slice A233 4 4]) (cap := []) [7] rfl rfl (bl rfl) rfl rfl en64 (c_slices_Concat_byte ([r15, r16, r17, r18]) A233 4 r19 hr19) rfl (fun ret M' F' hR463 => ?_))
        obtain ⟨m468, rfl, rfl, rfl⟩ := hR463
        refine nxp hok (kp_imp (kp_c0 rfl)) rfl (by kernel_rfl) ?_
        clear hok
        intro hok
        refine TrAny.next (j := 17) (by kernel_rfl) hok rfl (by kernel_rfl) (op_store' (k := 3) (c' := [.slice m468.1 r19.length m468.2.1]) rfl rfl rfl rfl rfl ty40 rfl (Nat.le_of_ble_eq_true rfl) (ones (oc rfl on)) rfl ?_)
        refine nxs hok (kp_aw (by kernel_rfl)) rfl ?_
        clear hok
        intro hok
        refine TrAny.done (by kernel_rfl) (by kernel_rfl) hok (by kernel_rfl) (⟨(b121, m468.1, m468.2.1, m468.2.2), Imp.re _ [6, 3, 0] [0, 8] (sc rfl (sc rfl sn)) (by decide) rfl rfl rfl⟩)
     ·refine step_n rfl (by kernel_rfl) rfl (op_buildSlice' (rp := (rInt .i64)) (xs := [p1.2.2.2.2.1]) (vs := [.int .i64 p1.2.2.2.2.1]) (out := [.int .i64 p1.2.2.2.2.1]) rfl (bl rfl) rfl sl221 ty3 ze3 rfl rfl (by decide) (by decide) rfl (fun γ w hF => (rowc rfl rown rfl)) (fun A234 => ?_))
      refine nxp hok (kp_imp (kp_cf rfl)) rfl (by kernel_rfl) ?_
      clear hok
      intro hok
      refine TrAny.fork [6, 16] (by kernel_rfl) hok ⟨6, by decide, bl rfl⟩ (by kernel_rfl) (.cons ?_ (.cons ?_ .nil))
      ·refine step_n rfl (by kernel_rfl) rfl (op_call0' (vs := [.int .u64 p1.2.2.1]) (cap := []) [] rfl rfl (bl rfl) rfl rfl en65 (c_codec_Num p1.2.2.1 r16 hr16) rfl (fun ret M' F' hR464 => ?_))
       obtain ⟨m469, rfl, rfl, rfl⟩ := hR464
       refine nxp hok (kp_imp (kp_c0 rfl)) rfl (by kernel_rfl) ?_
       clear hok
       intro hok
       refine TrAny.fork [9, 16] (by kernel_rfl) hok ⟨9, by decide, bl rfl⟩ (by kernel_rfl) (.cons ?_ (.cons ?_ .nil))
       ·refine step_n rfl (by kernel_rfl) rfl (op_call0' (vs := [.int .u64 p1.2.2.2.1]) (cap := []) [] rfl rfl (bl rfl) rfl rfl en65 (c_codec_Num p1.2.2.2.1 r17 hr17) rfl (fun ret M' F' hR465 => ?_))
        obtain ⟨m470, rfl, rfl, rfl⟩ := hR465
        refine nxp hok (kp_imp (kp_c0 rfl)) rfl (by kernel_rfl) ?_
        clear hok
        intro hok
        refine TrAny.fork [13, 16] (by kernel_rfl) hok ⟨13, by decide, bl rfl⟩ (by kernel_rfl) (.cons ?_ (.cons ?_ .nil))
        ·refine step_n rfl (by kernel_rfl) rfl (op_call0' (vs := [.slice A234 1 1]) (cap := []) [3] rfl rfl (bl rfl) rfl rfl en105 (c_conf_nums ([p1.2.2.2.2.1]) A234 1 r18 hr18) rfl (fun ret M' F' hR466 => ?_))
         obtain ⟨m471, rfl, rfl, rfl⟩ := hR466
         refine nxp hok (kp_imp (kp_c0 rfl)) rfl (by kernel_rfl) ?_
         clear hok
         intro hok
         refine TrAny.fork [14, 16] (by kernel_rfl) hok ⟨14, by decide, bl rfl⟩ (by kernel_rfl) (.cons ?_ (.cons ?_ .nil))
         ·refine step_n rfl (by kernel_rfl) rfl (op_buildSlice' (rp := (rSl (rInt .u8))) (xs := [r15, r16, r17, r18]) (vs := [.slice m442.1 r15.length m442.2.1, .slice m469.1 r16.length m469.2.1, .slice m470.1 r17.length m470.2.1, .slice m471.1 r18.length m471.2.1]) (out := [.slice m442.1 r15.length m442.2.1, .slice m469.1 r16.length m469.2.1, .slice m470.1 r17.length m470.2.1, .slice m471.1 r18.length m471.2.1]) rfl (bl rfl) rfl sl202 ty40 ze40 rfl rfl (by decide) (by decide) rfl (fun γ w hF => (rowc ⟨_, _, rfl, hF _ (List.mem_of_getElem? (i := 2) rfl)⟩ (rowc ⟨_, _, rfl, hF _ (List.mem_of_getElem? (i := 4) rfl)⟩ (rowc ⟨_, _, rfl, hF _ (List.mem_of_getElem? (i := 5) rfl)⟩ (rowc ⟨_, _, rfl, hF _ (List.mem_of_getElem? (i := 6) rfl)⟩ rown rfl) rfl) rfl) rfl)) (fun A235 => ?_))
          refine nxp hok (kp_imp (kp_cf rfl)) rfl (by kernel_rfl) ?_
          clear hok
          intro hok
          refine TrAny.fork [15, 16] (by kernel_rfl) hok ⟨15, by decide, bl rfl⟩ (by kernel_rfl) (.cons ?_ (.cons ?_ .nil))
          ·refine step_n rfl (by kernel_rfl) rfl (op_call0' (vs := [.slice A235 4 4]) (cap := []) [7] rfl rfl (bl rfl) rfl rfl en64 (c_slices_Concat_byte ([r15, r16, r17, r18]) A235 4 r19 hr19) rfl (fun ret M' F' hR467 => ?_))
           obtain ⟨m472, rfl, rfl, rfl⟩ := hR467
           refine nxp hok (kp_imp (kp_c0 rfl)) rfl (by kernel_rfl) ?_
           clear hok
           intro hok
           refine TrAny.next (j := 16) (by kernel_rfl) hok rfl (by kernel_rfl) (op_alloc' rfl (bl rfl) rfl ze40 (fun b122 => ?_))
           refine nxp hok (kp_imp (kp_cm rfl)) rfl (by kernel_rfl) ?_
           clear hok
           intro hok
           refine TrAny.next (j := 17) (by kernel_rfl) hok rfl (by kernel_rfl) (op_store' (k := 0) (c' := [.slice m472.1 r19.length m472.2.1]) rfl rfl rfl rfl rfl ty40 rfl (Nat.le_of_ble_eq_true rfl) (ones (oc rfl on)) rfl ?_)
           refine nxs hok (kp_aw (by kernel_rfl)) rfl ?_
           clear hok
           intro hok
           refine TrAny.done (by kernel_rfl) (by kernel_rfl) hok (by kernel_rfl) (⟨(b122, m472.1, m472.2.1, m472.2.2), Imp.re _ [6, 0, 1] [0, 8] (sc rfl (sc rfl sn)) (by decide) rfl rfl rfl⟩)
          ·refine step_n rfl (by kernel_rfl) rfl (op_alloc' rfl (bl rfl) rfl ze40 (fun b123 => ?_))
           refine nxp hok (kp_imp (kp_cm rfl)) rfl (by kernel_rfl) ?_
           clear hok
           intro hok
           refine TrAny.next (j := 15) (by kernel_rfl) hok rfl (by kernel_rfl) (op_call0' (vs := [.slice A235 4 4]) (cap := []) [7] rfl rfl (bl rfl) rfl rfl en64 (c_slices_Concat_byte ([r15, r16, r17, r18]) A235 4 r19 hr19) rfl (fun ret M' F' hR468 => ?_))
           obtain ⟨m473, rfl, rfl, rfl⟩ := hR468
           refine nxp hok (kp_imp (kp_c0 rfl)) rfl (by kernel_rfl) ?_
           clear hok
           intro hok
           refine TrAny.next (j := 17) (by kernel_rfl) hok rfl (by kernel_rfl) (op_store' (k := 1) (c' := [.slice m473.1 r19.length m473.2.1]) rfl rfl rfl rfl rfl ty40 rfl (Nat.le_of_ble_eq_true rfl) (ones (oc rfl on)) rfl ?_)
           refine nxs hok (kp_aw (by kernel_rfl)) rfl ?_
           clear hok
           intro hok
           refine TrAny.done (by kernel_rfl) (by kernel_rfl) hok (by kernel_rfl) (⟨(b123, m473.1, m473.2.1, m473.2.2), Imp.re _ [6, 1, 0] [0, 8] (sc rfl (sc rfl sn)) (by decide) rfl rfl rfl⟩)
         ·refine step_n rfl (by kernel_rfl) rfl (op_alloc' rfl (bl rfl) rfl ze40 (fun b124 => ?_))
          refine nxp hok (kp_imp (kp_cm rfl)) rfl (by kernel_rfl) ?_
          clear hok
          intro hok
          refine TrAny.next (j := 14) (by kernel_rfl) hok rfl (by kernel_rfl) (op_buildSlice' (rp := (rSl (rInt .u8))) (xs := [r15, r16, r17, r18]) (vs := [.slice m442.1 r15.length m442.2.1, .slice m469.1 r16.length m469.2.1, .slice m470.1 r17.length m470.2.1, .slice m471.1 r18.length m471.2.1]) (out := [.slice m442.1 r15.length m442.2.1, .slice m469.1 r16.length m469.2.1, .slice m470.1 r17.length m470.2.1, .slice m471.1 r18.length m471.2.1]) rfl (bl rfl) rfl sl202 ty40 ze40 rfl rfl (by decide) (by decide) rfl (fun γ w hF => (rowc ⟨_, _, rfl, hF _ (List.mem_of_getElem? (i := 2) rfl)⟩ (rowc ⟨_, _, rfl, hF _ (List.mem_of_getElem? (i := 4) rfl)⟩ (rowc ⟨_, _, rfl, hF _ (List.mem_of_getElem? (i := 5) rfl)⟩ (rowc ⟨_, _, rfl, hF _ (List.mem_of_getElem? (i := 6) rfl)⟩ rown rfl) rfl) rfl) rfl)) (fun A236 => ?_))
          refine nxp hok (kp_imp (kp_cf rfl)) rfl (by kernel_rfl) ?_
          clear hok
          intro hok
          refine TrAny.next (j := 15) (by kernel_rfl) hok rfl (by kernel_rfl) (op_call0' (vs := [.slice A236 4 4]) (cap := []) [7] rfl rfl (bl rfl) rfl rfl en64 (c_slices_Concat_byte ([r15, r16, r17, r18]) A236 4 r19 hr19) rfl (fun ret M' F' hR469 => ?_))
          obtain ⟨m474, rfl, rfl, rfl⟩ := hR469
          refine nxp hok (kp_imp (kp_c0 rfl)) rfl (by kernel_rfl) ?_
          clear hok
          intro hok
          refine TrAny.next (j := 17) (by kernel_rfl) hok rfl (by kernel_rfl) (op_store' (k := 1) (c' := [.slice m474.1 r19.length m474.2.1]) rfl rfl rfl rfl rfl ty40 rfl (Nat.le_of_ble_eq_true rfl) (ones (oc rfl on)) rfl ?_)
          refine nxs hok (kp_aw (by kernel_rfl)) rfl ?_
          clear hok
          intro hok
          refine TrAny.done (by kernel_rfl) (by kernel_rfl) hok (by kernel_rfl) (⟨(b124, m474.1, m474.2.1, m474.2.2), Imp.re _ [6, 1, 0] [0, 8] (sc rfl (sc rfl sn)) (by decide) rfl rfl rfl⟩)
        ·refine step_n rfl (by kernel_rfl) rfl (op_alloc' rfl (bl rfl) rfl ze40 (fun b125 => ?_))
         refine nxp hok (kp_imp (kp_cm rfl)) rfl (by kernel_rfl) ?_
         clear hok
         intro hok
         refine TrAny.next (j := 13) (by kernel_rfl) hok rfl (by kernel_rfl) (op_call0' (vs := [.slice A234 1 1]) (cap := []) [3] rfl rfl (bl rfl) rfl rfl en105 (c_conf_nums ([p1.2.2.2.2.1]) A234 1 r18 hr18) rfl (fun ret M' F' hR470 => ?_))
         obtain ⟨m475, rfl, rfl, rfl⟩ := hR470
         refine nxp hok (kp_imp (kp_c0 rfl)) rfl (by kernel_rfl) ?_
         clear hok
         intro hok
         refine TrAny.next (j := 14) (by kernel_rfl) hok rfl (by kernel_rfl) (op_buildSlice' (rp := (rSl (rInt .u8))) (xs := [r15, r16, r17, r18]) (vs := [.slice m442.1 r15.length m442.2.1, .slice m469.1 r16.length m469.2.1, .slice m470.1 r17.length m470.2.1, .slice m475.1 r18.length m475.2.1]) (out := [.slice m442.1 r15.length m442.2.1, .slice m469.1 r16.length m469.2.1, .slice m470.1 r17.length m470.2.1, .slice m475.1 r18.length m475.2.1]) rfl (bl rfl) rfl sl202 ty40 ze40 rfl rfl (by decide) (by decide) rfl (fun γ w hF => (rowc ⟨_, _, rfl, hF _ (List.mem_of_getElem? (i := 2) rfl)⟩ (rowc ⟨_, _, rfl, hF _ (List.mem_of_getElem? (i := 4) rfl)⟩ (rowc ⟨_, _, rfl, hF _ (List.mem_of_getElem? (i := 5) rfl)⟩ (rowc ⟨_, _, rfl, hF _ (List.mem_of_getElem? (i := 6) rfl)⟩ rown rfl) rfl) rfl) rfl)) (fun A237 => ?_))
         refine nxp hok (kp_imp (kp_cf rfl)) rfl (by kernel_rfl) ?_
         clear hok
         intro hok
         refine TrAny.next (j := 15) (by kernel_rfl) hok rfl (by kernel_rfl) (op_call0' (vs := [.slice A237 4 4]) (cap := []) [7] rfl rfl (bl rfl) rfl rfl en64 (c_slices_Concat_byte ([r15, r16, r17, r18]) A237 4 r19 hr19) rfl (fun ret M' F' hR471 => ?_))
         obtain ⟨m476, rfl, rfl, rfl⟩ := hR471
         refine nxp hok (kp_imp (kp_c0 rfl)) rfl (by kernel_rfl) ?_
         clear hok
         intro hok
         refine TrAny.next (j := 17) (by kernel_rfl) hok rfl (by kernel_rfl) (op_store' (k := 2) (c' := [.slice m476.1 r19.length m476.2.1]) rfl rfl rfl rfl rfl ty40 rfl (Nat.le_of_ble_eq_true rfl) (ones (oc rfl on)) rfl ?_)
         refine nxs hok (kp_aw (by kernel_rfl)) rfl ?_
         clear hok
         intro hok
         refine TrAny.done (by kernel_rfl) (by kernel_rfl) hok (by kernel_rfl) (⟨(b125, m476.1, m476.2.1, m476.2.2), Imp.re _ [6, 2, 0] [0, 8] (sc rfl (sc rfl sn)) (by decide) rfl rfl rfl⟩)
       ·refine step_n rfl (by kernel_rfl) rfl (op_alloc' rfl (bl rfl) rfl ze40 (fun b126 => ?_))
        refine nxp hok (kp_imp (kp_cm rfl)) rfl (by kernel_rfl) ?_
        clear hok
        intro hok
        refine TrAny.next (j := 9) (by kernel_rfl) hok rfl (by kernel_rfl) (op_call0' (vs := [.int .u64 p1.2.2.2.1]) (cap := []) [] rfl rfl (bl rfl) rfl rfl en65 (c_codec_Num p1.2.2.2.1 r17 hr17) rfl (fun ret M' F' hR472 => ?_))
        obtain ⟨m477, rfl, rfl, rfl⟩ := hR472
        refine nxp hok (kp_imp (kp_c0 rfl)) rfl (by kernel_rfl) ?_
        clear hok
        intro hok
        refine TrAny.next (j := 13) (by kernel_rfl) hok rfl (by kernel_rfl) (op_call0' (vs := [.slice A234 1 1]) (cap := []) [3] rfl rfl (bl rfl) rfl rfl en105 (c_conf_nums ([p1.2.2.2.2.1]) A234 1 r18 hr18) rfl (fun ret M' F' hR473 => ?_))
        obtain ⟨m478, rfl, rfl, rfl⟩ := hR473
        refine nxp hok (kp_imp (kp_c0 rfl)) rfl (by kernel_rfl) ?_
        clear hok
        intro hok
        refine TrAny.next (j := 14) (by kernel_rfl) hok rfl (by kernel_rfl) (op_buildSlice' (rp := (rSl (rInt .u8))) (xs := [r15, r16, r17, r18]) (vs := [.slice m442.1 r15.length m442.2.1, .slice m469.1 r16.length m469.2.1, .slice m477.1 r17.length m477.2.1, .slice m478.1 r18.length m478.2.1]) (out := [.slice m442.1 r15.length m442.2.1, .slice m469.1 r16.length m469.2.1, .slice m477.1 r17.length m477.2.1, .slice m478.1 r18.length m478.2.1]) rfl (bl rfl) rfl sl202 ty40 ze40 rfl rfl (by decide) (by decide) rfl (fun γ w hF => (rowc ⟨_, _, rfl, hF _ (List.mem_of_getElem? (i := 2) rfl)⟩ (rowc ⟨_, _, rfl, hF _ (List.mem_of_getElem? (i := 4) rfl)⟩ (rowc ⟨_, _, rfl, hF _ (List.mem_of_getElem? (i := 5) rfl)⟩ (rowc ⟨_, _, rfl, hF _ (List.mem_of_getElem? (i := 6) rfl)⟩ rown rfl) rfl) rfl) rfl)) (fun A238 => ?_))
        refine nxp hok (kp_imp (kp_cf rfl)) rfl (by kernel_rfl) ?_
        clear hok
        intro hok
        refine TrAny.next (j := 15) (by kernel_rfl) hok rfl (by kernel_rfl) (op_call0' (vs := [.slice A238 4 4]) (cap := []) [7] rfl rfl (bl rfl) rfl rfl en64 (c_slices_Concat_byte ([r15, r16, r17, r18]) A238 4 r19 hr19) rfl (fun ret M' F' hR474 => ?_))
        obtain ⟨m479, rfl, rfl, rfl⟩ := hR474
        refine nxp hok (kp_imp (kp_c0 rfl)) rfl (by kernel_rfl) ?_
        clear hok
        intro hok
        refine TrAny.next (j := 17) (by kernel_rfl) hok rfl (by kernel_rfl) (op_store' (k := 3) (c' := [.slice m479.1 r19.length m479.2.1]) rfl rfl rfl rfl rfl ty40 rfl (Nat.le_of_ble_eq_true rfl) (ones (oc rfl on)) rfl ?_)
        refine nxs hok (kp_aw (by kernel_rfl)) rfl ?_
        clear hok
        intro hok
        refine TrAny.done (by kernel_rfl) (by kernel_rfl) hok (by kernel_rfl) (⟨(b126, m479.1, m479.2.1, m479.2.2), Imp.re _ [6, 3, 0] [0, 8] (sc rfl (sc rfl sn)) (by decide) rfl rfl rfl⟩)
      ·refine step_n rfl (by kernel_rfl) rfl (op_alloc' rfl (bl rfl) rfl ze40 (fun b127 => ?_))
       refine nxp hok (kp_imp (kp_cm rfl)) rfl (by kernel_rfl) ?_
       clear hok
       intro hok
       refine TrAny.next (j := 6) (by kernel_rfl) hok rfl (by kernel_rfl) (op_call0' (vs := [.int .u64 p1.2.2.1]) (cap := []) [] rfl rfl (bl rfl) rfl rfl en65 (c_codec_Num p1.2.2.1 r16 hr16) rfl (fun ret M' F' hR475 => ?_))
       obtain ⟨m480, rfl, rfl, rfl⟩ := hR475
       refine nxp hok (kp_imp (kp_c0 rfl)) rfl (by kernel_rfl) ?_
       clear hok
       intro hok
       refine TrAny.next (j := 9) (by kernel_rfl) hok rfl (by kernel_rfl) (op_call0' (vs := [.int .u64 p1.2.2.2.1]) (cap := []) [] rfl rfl (bl rfl) rfl rfl en65 (c_codec_Num p1.2.2.2.1 r17 hr17) rfl (fun ret M' F' hR476 => ?_))
       obtain ⟨m481, rfl, rfl, rfl⟩ := hR476
       refine nxp hok (kp_imp (kp_c0 rfl)) rfl (by kernel_rfl) ?_
       clear hok
       intro hok
       refine TrAny.next (j := 13) (by kernel_rfl) hok rfl (by kernel_rfl) (op_call0' (vs := [.slice A234 1 1]) (cap := []) [3] rfl rfl (bl rfl) rfl rfl en105 (c_conf_nums ([p1.2.2.2.2.1]) A234 1 r18 hr18) rfl (fun ret M' F' hR477 => ?_))
       obtain ⟨m482, rfl, rfl, rfl⟩ := hR477
       refine nxp hok (kp_imp (kp_c0 rfl)) rfl (by kernel_rfl) ?_
       clear hok
       intro hok
       refine TrAny.next (j := 14) (by kernel_rfl) hok rfl (by kernel_rfl) (op_buildSlice' (rp := (rSl (rInt .u8))) (xs := [r15, r16, r17, r18]) (vs := [.slice m442.1 r15.length m442.2.1, .slice m480.1 r16.length m480.2.1, .slice m481.1 r17.length m481.2.1, .slice m482.1 r18.length m482.2.1]) (out := [.slice m442.1 r15.length m442.2.1, .slice m480.1 r16.length m480.2.1, .slice m481.1 r17.length m481.2.1, .slice m482.1 r18.length m482.2.1]) rfl (bl rfl) rfl sl202 ty40 ze40 rfl rfl (by decide) (by decide) rfl (fun γ w hF => (rowc ⟨_, _, rfl, hF _ (List.mem_of_getElem? (i := 2) rfl)⟩ (rowc ⟨_, _, rfl, hF _ (List.mem_of_getElem? (i := 4) rfl)⟩ (rowc ⟨_, _, rfl, hF _ (List.mem_of_getElem? (i := 5) rfl)⟩ (rowc ⟨_, _, rfl, hF _ (List.mem_of_getElem? (i := 6) rfl)⟩ rown rfl) rfl) rfl) rfl)) (fun A239 => ?_))
       refine nxp hok (kp_imp (kp_cf rfl)) rfl (by kernel_rfl) ?_
       clear hok
       intro hok
       refine TrAny.next (j := 15) (by kernel_rfl) hok rfl (by kernel_rfl) (op_call0' (vs := [.slice A239 4 4]) (cap := []) [7] rfl rfl (bl rfl) rfl rfl en64 (c_slices_Concat_byte ([r15, r16, r17, r18]) A239 4 r19 hr19) rfl (fun ret M' F' hR478 => ?_))
       obtain ⟨m483, rfl, rfl, rfl⟩ := hR478
       refine nxp hok (kp_imp (kp_c0 rfl)) rfl (by kernel_rfl) ?_
       clear hok
       intro hok
       refine TrAny.next (j := 17) (by kernel_rfl) hok rfl (by kernel_rfl) (op_store' (k := 4) (c' := [.slice m483.1 r19.length m483.2.1]) rfl rfl rfl rfl rfl ty40 rfl (Nat.le_of_ble_eq_true rfl) (ones (oc rfl on)) rfl ?_)
       refine nxs hok (kp_aw (by kernel_rfl)) rfl ?_
       clear hok
       intro hok
       refine TrAny.done (by kernel_rfl) (by kernel_rfl) hok (by kernel_rfl) (⟨(b127, m483.1, m483.2.1, m483.2.2), Imp.re _ [6, 4, 0] [0, 8] (sc rfl (sc rfl sn)) (by decide) rfl rfl rfl⟩)
     ·refine step_n rfl (by kernel_rfl) rfl (op_alloc' rfl (bl rfl) rfl ze40 (fun b128 => ?_))
      refine nxp hok (kp_imp (kp_cm rfl)) rfl (by kernel_rfl) ?_
      clear hok
      intro hok
      refine TrAny.fork [6, 12] (by kernel_rfl) hok ⟨6, by decide, bl rfl⟩ (by kernel_rfl) (.cons ?_ (.cons ?_ .nil))
      ·refine step_n rfl (by kernel_rfl) rfl (op_call0' (vs := [.int .u64 p1.2.2.1]) (cap := []) [] rfl rfl (bl rfl) rfl rfl en65 (c_codec_Num p1.2.2.1 r16 hr16) rfl (fun ret M' F' hR479 => ?_))
       obtain ⟨m484, rfl, rfl, rfl⟩ := hR479
       refine nxp hok (kp_imp (kp_c0 rfl)) rfl (by kernel_rfl) ?_
       clear hok
       intro hok
       refine TrAny.fork [9, 12] (by kernel_rfl) hok ⟨9, by decide, bl rfl⟩ (by kernel_rfl) (.cons ?_ (.cons ?_ .nil))
       ·refine step_n rfl (by kernel_rfl) rfl (op_call0' (vs := [.int .u64 p1.2.2.2.1]) (cap := []) [] rfl rfl (bl rfl) rfl rfl en65 (c_codec_Num p1.2.2.2.1 r17 hr17) rfl (fun ret M' F' hR480 => ?_))
        obtain ⟨m485, rfl, rfl, rfl⟩ := hR480
        refine nxp hok (kp_imp (kp_c0 rfl)) rfl (by kernel_rfl) ?_
        clear hok
        intro hok
        refine TrAny.next (j := 12) (by kernel_rfl) hok rfl (by kernel_rfl) (op_buildSlice' (rp := (rInt .i64)) (xs := [p1.2.2.2.2.1]) (vs := [.int .i64 p1.2.2.2.2.1]) (out := [.int .i64 p1.2.2.2.2.1]) rfl (bl rfl) rfl sl221 ty3 ze3 rfl rfl (by decide) (by decide) rfl (fun γ w hF => (rowc rfl rown rfl)) (fun A240 => ?_))
        refine nxp hok (kp_imp (kp_cf rfl)) rfl (by kernel_rfl) ?_
        clear hok
        intro hok
        refine TrAny.next (j := 13) (by kernel_rfl) hok rfl (by kernel_rfl) (op_call0' (vs := [.slice A240 1 1]) (cap := []) [5] rfl rfl (bl rfl) rfl rfl en105 (c_conf_nums ([p1.2.2.2.2.1]) A240 1 r18 hr18) rfl (fun ret M' F' hR481 => ?_))
        obtain ⟨m486, rfl, rfl, rfl⟩ := hR481
        refine nxp hok (kp_imp (kp_c0 rfl)) rfl (by kernel_rfl) ?_
        clear hok
        intro hok
        refine TrAny.next (j := 14) (by kernel_rfl) hok rfl (by kernel_rfl) (op_buildSlice' (rp := (rSl (rInt .u8))) (xs := [r15, r16, r17, r18]) (vs := [.slice m442.1 r15.length m442.2.1, .slice m484.1 r16.length m484.2.1, .slice m485.1 r17.length m485.2.1, .slice m486.1 r18.length m486.2.1]) (out := [.slice m442.1 r15.length m442.2.1, .slice m484.1 r16.length m484.2.1, .slice m485.1 r17.length m485.2.1, .slice m486.1 r18.length m486.2.1]) rfl (bl rfl) rfl sl202 ty40 ze40 rfl rfl (by decide) (by decide) rfl (fun γ w hF => (rowc ⟨_, _, rfl, hF _ (List.mem_of_getElem? (i := 2) rfl)⟩ (rowc ⟨_, _, rfl, hF _ (List.mem_of_getElem? (i := 3) rfl)⟩ (rowc ⟨_, _, rfl, hF _ (List.mem_of_getElem? (i := 4) rfl)⟩ (rowc ⟨_, _, rfl, hF _ (List.mem_of_getElem? (i := 6) rfl)⟩ rown rfl) rfl) rfl) rfl)) (fun A241 => ?_))
        refine nxp hok (kp_imp (kp_cf rfl)) rfl (by kernel_rfl) ?_
        clear hok
        intro hok
        refine TrAny.next (j := 15) (by kernel_rfl) hok rfl (by kernel_rfl) (op_call0' (vs := [.slice A241 4 4]) (cap := []) [7] rfl rfl (bl rfl) rfl rfl en64 (c_slices_Concat_byte ([r15, r16, r17, r18]) A241 4 r19 hr19) rfl (fun ret M' F' hR482 => ?_))
        obtain ⟨m487, rfl, rfl, rfl⟩ := hR482
        refine nxp hok (kp_imp (kp_c0 rfl)) rfl (by kernel_rfl) ?_
        clear hok
        intro hok
        refine TrAny.next (j := 17) (by kernel_rfl) hok rfl (by kernel_rfl) (op_store' (k := 4) (c' := [.slice m487.1 r19.length m487.2.1]) rfl rfl rfl rfl rfl ty40 rfl (Nat.le_of_ble_eq_true rfl) (ones (oc rfl on)) rfl ?_)
        refine nxs hok (kp_aw (by kernel_rfl)) rfl ?_
        clear hok
        intro hok
        refine TrAny.done (by kernel_rfl) (by kernel_rfl) hok (by kernel_rfl) (⟨(b128, m487.1, m487.2.1, m487.2.2), Imp.re _ [6, 4, 0] [0, 8] (sc rfl (sc rfl sn)) (by decide) rfl rfl rfl⟩)
       ·refine step_n rfl (by kernel_rfl) rfl (op_buildSlice' (rp := (rInt .i64)) (xs := [p1.2.2.2.2.1]) (vs := [.int .i64 p1.2.2.2.2.1]) (out := [.int .i64 p1.2.2.2.2.1]) rfl (bl rfl) rfl sl221 ty3 ze3 rfl rfl (by decide) (by decide) rfl (fun γ w hF => (rowc rfl rown rfl)) (fun A242 => ?_))
        refine nxp hok (kp_imp (kp_cf rfl)) rfl (by kernel_rfl) ?_
        clear hok
        intro hok
        refine TrAny.next (j := 9) (by kernel_rfl) hok rfl (by kernel_rfl) (op_call0' (vs := [.int .u64 p1.2.2.2.1]) (cap := []) [] rfl rfl (bl rfl) rfl rfl en65 (c_codec_Num p1.2.2.2.1 r17 hr17) rfl (fun ret M' F' hR483 => ?_))
        obtain ⟨m488, rfl, rfl, rfl⟩ := hR483
        refine nxp hok (kp_imp (kp_c0 rfl)) rfl (by kernel_rfl) ?_
        clear hok
        intro hok
        refine TrAny.next (j := 13) (by kernel_rfl) hok rfl (by kernel_rfl) (op_call0' (vs := [.slice A242 1 1]) (cap := []) [4] rfl rfl (bl rfl) rfl rfl en105 (c_conf_nums ([p1.2.2.2.2.1]) A242 1 r18 hr18) rfl (fun ret M' F' hR484 => ?_))
        obtain ⟨m489, rfl, rfl, rfl⟩ := hR484
        refine nxp hok (kp_imp (kp_c0 rfl)) rfl (by kernel_rfl) ?_
        clear hok
        intro hok
        refine TrAny.next (j := 14) (by kernel_rfl) hok rfl (by kernel_rfl) (op_buildSlice' (rp := (rSl (rInt .u8))) (xs := [r15, r16, r17, r18]) (vs := [.slice m442.1 r15.length m442.2.1, .slice m484.1 r16.length m484.2.1, .slice m488.1 r17.length m488.2.1, .slice m489.1 r18.length m489.2.1]) (out := [.slice m442.1 r15.length m442.2.1, .slice m484.1 r16.length m484.2.1, .slice m488.1 r17.length m488.2.1, .slice m489.1 r18.length m489.2.1]) rfl (bl rfl) rfl sl202 ty40 ze40 rfl rfl (by decide) (by decide) rfl (fun γ w hF => (rowc ⟨_, _, rfl, hF _ (List.mem_of_getElem? (i := 2) rfl)⟩ (rowc ⟨_, _, rfl, hF _ (List.mem_of_getElem? (i := 3) rfl)⟩ (rowc ⟨_, _, rfl, hF _ (List.mem_of_getElem? (i := 5) rfl)⟩ (rowc ⟨_, _, rfl, hF _ (List.mem_of_getElem? (i := 6) rfl)⟩ rown rfl) rfl) rfl) rfl)) (fun A243 => ?_))
        refine nxp hok (kp_imp (kp_cf rfl)) rfl (by kernel_rfl) ?_
        clear hok
        intro hok
        refine TrAny.next (j := 15) (by kernel_rfl) hok rfl (by kernel_rfl) (op_call0' (vs := [.slice A243 4 4]) (cap := []) [7] rfl rfl (bl rfl) rfl rfl en64 (c_slices_Concat_byte ([r15, r16, r17, r18]) A243 4 r19 hr19) rfl (fun ret M' F' hR485 => ?_))
        obtain ⟨m490, rfl, rfl, rfl⟩ := hR485
        refine nxp hok (kp_imp (kp_c0 rfl)) rfl (by kernel_rfl) ?_
        clear hok
        intro hok
        refine TrAny.next (j := 17) (by kernel_rfl) hok rfl (by kernel_rfl) (op_store' (k := 4) (c' := [.slice m490.1 r19.length m490.2.1]) rfl rfl rfl rfl rfl ty40 rfl (Nat.le_of_ble_eq_true rfl) (ones (oc rfl on)) rfl ?_)
        refine nxs hok (kp_aw (by kernel_rfl)) rfl ?_
        clear hok
        intro hok
        refine TrAny.done (by kernel_rfl) (by kernel_rfl) hok (by kernel_rfl) (⟨(b128, m490.1, m490.2.1, m490.2.2), Imp.re _ [6, 4, 0] [0, 8] (sc rfl (sc rfl sn)) (by decide) rfl rfl rfl⟩)
      ·refine step_n rfl (by kernel_rfl) rfl (op_buildSlice' (rp := (rInt .i64)) (xs := [p1.2.2.2.2.1]) (vs := [.int .i64 p1.2.2.2.2.1]) (out := [.int .i64 p1.2.2.2.2.1]) rfl (bl rfl) rfl sl221 ty3 ze3 rfl rfl (by decide) (by decide) rfl (fun γ w hF => (rowc rfl rown rfl)) (fun A244 => ?_))
       refine nxp hok (kp_imp (kp_cf rfl)) rfl (by kernel_rfl) ?_
       clear hok
       intro hok
       refine TrAny.next (j := 6) (by kernel_rfl) hok rfl (by kernel_rfl) (op_call0' (vs := [.int .u64 p1.2.2.1]) (cap := []) [] rfl rfl (bl rfl) rfl rfl en65 (c_codec_Num p1.2.2.1 r16 hr16) rfl (fun ret M' F' hR486 => ?_))
       obtain ⟨m491, rfl, rfl, rfl⟩ := hR486
       refine nxp hok (kp_imp (kp_c0 rfl)) rfl (by kernel_rfl) ?_
       clear hok
       intro hok
       refine TrAny.next (j := 9) (by kernel_rfl) hok rfl (by kernel_rfl) (op_call0' (vs := [.int .u64 p1.2.2.2.1]) (cap := []) [] rfl rfl (bl rfl) rfl rfl en65 (c_codec_Num p1.2.2.2.1 r17 hr17) rfl (fun ret M' F' hR487 => ?_))
       obtain ⟨m492, rfl, rfl, rfl⟩ := hR487
       refine nxp hok (kp_imp (kp_c0 rfl)) rfl (by kernel_rfl) ?_
       clear hok
       intro hok
       refine TrAny.next (j := 13) (by kernel_rfl) hok rfl (by kernel_rfl) (op_call0' (vs := [.slice A244 1 1]) (cap := []) [3] rfl rfl (bl rfl) rfl rfl en105 (c_conf_nums ([p1.2.2.2.2.1]) A244 1 r18 hr18) rfl (fun ret M' F' hR488 => ?_))
       obtain ⟨m493, rfl, rfl, rfl⟩ := hR488
       refine nxp hok (kp_imp (kp_c0 rfl)) rfl (by kernel_rfl) ?_
       clear hok
       intro hok
       refine TrAny.next (j := 14) (by kernel_rfl) hok rfl (by kernel_rfl) (op_buildSlice' (rp := (rSl (rInt .u8))) (xs := [r15, r16, r17, r18]) (vs := [.slice m442.1 r15.length m442.2.1, .slice m491.1 r16.length m491.2.1, .slice m492.1 r17.length m492.2.1, .slice m493.1 r18.length m493.2.1]) (out := [.slice m442.1 r15.length m442.2.1, .slice m491.1 r16.length m491.2.1, .slice m492.1 r17.length m492.2.1, .slice m493.1 r18.length m493.2.1]) rfl (bl rfl) rfl sl202 ty40 ze40 rfl rfl (by decide) (by decide) rfl (fun γ w hF => (rowc ⟨_, _, rfl, hF _ (List.mem_of_getElem? (i := 2) rfl)⟩ (rowc ⟨_, _, rfl, hF _ (List.mem_of_getElem? (i := 4) rfl)⟩ (rowc ⟨_, _, rfl, hF _ (List.mem_of_getElem? (i := 5) rfl)⟩ (rowc ⟨_, _, rfl, hF _ (List.mem_of_getElem? (i := 6) rfl)⟩ rown rfl) rfl) rfl) rfl)) (fun A245 => ?_))
       refine nxp hok (kp_imp (kp_cf rfl)) rfl (by kernel_rfl) ?_
       clear hok
       intro hok
       refine TrAny.next (j := 15) (by kernel_rfl) hok rfl (by kernel_rfl) (op_call0' (vs := [.slice A245 4 4]) (cap := []) [7] rfl rfl (bl rfl) rfl rfl en64 (c_slices_Concat_byte ([r15, r16, r17, r18]) A245 4 r19 hr19) rfl (fun ret M' F' hR489 => ?_))
       obtain ⟨m494, rfl, rfl, rfl⟩ := hR489
       refine nxp hok (kp_imp (kp_c0 rfl)) rfl (by kernel_rfl) ?_
       clear hok
       intro hok
       refine TrAny.next (j := 17) (by kernel_rfl) hok rfl (by kernel_rfl) (op_store' (k := 4) (c' := [.slice m494.1 r19.length m494.2.1]) rfl rfl rfl rfl rfl ty40 rfl (Nat.le_of_ble_eq_true rfl) (ones (oc rfl on)) rfl ?_)
       refine nxs hok (kp_aw (by kernel_rfl)) rfl ?_
       clear hok
       intro hok
       refine TrAny.done (by kernel_rfl) (by kernel_rfl) hok (by kernel_rfl) (⟨(b128, m494.1, m494.2.1, m494.2.2), Imp.re _ [6, 4, 0] [0, 8] (sc rfl (sc rfl sn)) (by decide) rfl rfl rfl⟩)
    ·refine step_n rfl (by kernel_rfl) rfl (op_buildSlice' (rp := (rInt .i64)) (xs := [p1.2.2.2.2.1]) (vs := [.int .i64 p1.2.2.2.2.1]) (out := [.int .i64 p1.2.2.2.2.1]) rfl (bl rfl) rfl sl221 ty3 ze3 rfl rfl (by decide) (by decide) rfl (fun γ w hF => (rowc rfl rown rfl)) (fun A246 => ?_))
     refine nxp hok (kp_imp (kp_cf rfl)) rfl (by kernel_rfl) ?_
     clear hok
     intro hok
     refine TrAny.fork [3, 16] (by kernel_rfl) hok ⟨3, by decide, bl rfl⟩ (by kernel_rfl) (.cons ?_ (.cons ?_ .nil))
     ·refine step_n rfl (by kernel_rfl) rfl (op_call0' (vs := [.slice A218 1 1]) (cap := []) [1] rfl rfl (bl rfl) rfl rfl en105 (c_conf_nums ([p1.1]) A218 1 r15 hr15) rfl (fun ret M' F' hR490 => ?_))
      obtain ⟨m495, rfl, rfl, rfl⟩ := hR490
      refine nxp hok (kp_imp (kp_c0 rfl)) rfl (by kernel_rfl) ?_
      clear hok
      intro hok
      refine TrAny.fork [6, 16] (by kernel_rfl) hok ⟨6, by decide, bl rfl⟩ (by kernel_rfl) (.cons ?_ (.cons ?_ .nil))
      ·refine step_n rfl (by kernel_rfl) rfl (op_call0' (vs := [.int .u64 p1.2.2.1]) (cap := []) [] rfl rfl (bl rfl) rfl rfl en65 (c_codec_Num p1.2.2.1 r16 hr16) rfl (fun ret M' F' hR491 => ?_))
       obtain ⟨m496, rfl, rfl, rfl⟩ := hR491
       refine nxp hok (kp_imp (kp_c0 rfl)) rfl (by kernel_rfl) ?_
       clear hok
       intro hok
       refine TrAny.fork [9, 16] (by kernel_rfl) hok ⟨9, by decide, bl rfl⟩ (by kernel_rfl) (.cons ?_ (.cons ?_ .nil))
       ·refine step_n rfl (by kernel_rfl) rfl (op_call0' (vs := [.int .u64 p1.2.2.2.1]) (cap := []) [] rfl rfl (bl rfl) rfl rfl en65 (c_codec_Num p1.2.2.2.1 r17 hr17) rfl (fun ret M' F' hR492 => ?_))
        obtain ⟨m497, rfl, rfl, rfl⟩ := hR492
        refine nxp hok (kp_imp (kp_c0 rfl)) rfl (by kernel_rfl) ?_
        clear hok
        intro hok
        refine TrAny.fork [13, 16] (by kernel_rfl) hok ⟨13, by decide, bl rfl⟩ (by kernel_rfl) (.cons ?_ (.cons ?_ .nil))
        ·refine step_n rfl (by kernel_rfl) rfl (op_call0' (vs := [.slice A246 1 1]) (cap := []) [2] rfl rfl (bl rfl) rfl rfl en105 (c_conf_nums ([p1.2.2.2.2.1]) A246 1 r18 hr18) rfl (fun ret M' F' hR493 => ?_))
         obtain ⟨m498, rfl, rfl, rfl⟩ := hR493
         refine nxp hok (kp_imp (kp_c0 rfl)) rfl (by kernel_rfl) ?_
         clear hok
         intro hok
         refine TrAny.fork [14, 16] (by kernel_rfl) hok ⟨14, by decide, bl rfl⟩ (by kernel_rfl) (.cons ?_ (.cons ?_ .nil))
         ·refine step_n rfl (by kernel_rfl) rfl (op_buildSlice' (rp := (rSl (rInt .u8))) (xs := [r15, r16, r17, r18]) (vs := [.slice m495.1 r15.length m495.2.1, .slice m496.1 r16.length m496.2.1, .slice m497.1 r17.length m497.2.1, .slice m498.1 r18.length m498.2.1]) (out := [.slice m495.1 r15.length m495.2.1, .slice m496.1 r16.length m496.2.1, .slice m497.1 r17.length m497.2.1, .slice m498.1 r18.length m498.2.1]) rfl (bl rfl) rfl sl202 ty40 ze40 rfl rfl (by decide) (by decide) rfl (fun γ w hF => (rowc ⟨_, _, rfl, hF _ (List.mem_of_getElem? (i := 3) rfl)⟩ (rowc ⟨_, _, rfl, hF _ (List.mem_of_getElem? (i := 4) rfl)⟩ (rowc ⟨_, _, rfl, hF _ (List.mem_of_getElem? (i := 5) rfl)⟩ (rowc ⟨_, _, rfl, hF _ (List.mem_of_getElem? (i := 6) rfl)⟩ rown rfl) rfl) rfl) rfl)) (fun A247 => ?_))
          refine nxp hok (kp_imp (kp_cf rfl)) rfl (by kernel_rfl) ?_
          clear hok
          intro hok
          refine TrAny.fork [15, 16] (by kernel_rfl) hok ⟨15, by decide, bl rfl⟩ (by kernel_rfl) (.cons ?_ (.cons ?_ .nil))
          ·refine step_n rfl (by kernel_rfl) rfl (op_call0' (vs := [.slice A247 4 4]) (cap := []) [7] rfl rfl (bl rfl) rfl rfl en64 (c_slices_Concat_byte ([r15, r16, r17, r18]) A247 4 r19 hr19) rfl (fun ret M' F' hR494 => ?_))
           obtain ⟨m499, rfl, rfl, rfl⟩ := hR494
           refine nxp hok (kp_imp (kp_c0 rfl)) rfl (by kernel_rfl) ?_
           clear hok
           intro hok
           refine TrAny.next (j := 16) (by kernel_rfl) hok rfl (by kernel_rfl) (op_alloc' rfl (bl rfl) rfl ze40 (fun b129 => ?_))
           refine nxp hok (kp_imp (kp_cm rfl)) rfl (by kernel_rfl) ?_
           clear hok
           intro hok
           refine TrAny.next (j := 17) (by kernel_rfl) hok rfl (by kernel_rfl) (op_store' (k := 0) (c' := [.slice m499.1 r19.length m499.2.1]) rfl rfl rfl rfl rfl ty40 rfl (Nat.le_of_ble_eq_true rfl) (ones (oc rfl on)) rfl ?_)
           refine nxs hok (kp_aw (by kernel_rfl)) rfl ?_
           clear hok
           intro hok
           refine TrAny.done (by kernel_rfl) (by kernel_rfl) hok (by kernel_rfl) (⟨(b129, m499.1, m499.2.1, m499.2.2), Imp.re _ [6, 0, 1] [0, 8] (sc rfl (sc rfl sn)) (by decide) rfl rfl rfl⟩)
          ·refine step_n rfl (by kernel_rfl) rfl (op_alloc' rfl (bl rfl) rfl ze40 (fun b130 => ?_))
           refine nxp hok (kp_imp (kp_cm rfl)) rfl (by kernel_rfl) ?_
           clear hok
           intro hok
           refine TrAny.next (j := 15) (by kernel_rfl) hok rfl (by kernel_rfl) (op_call0' (vs := [.slice A247 4 4]) (cap := []) [7] rfl rfl (bl rfl) rfl rfl en64 (c_slices_Concat_byte ([r15, r16, r17, r18]) A247 4 r19 hr19) rfl (fun ret M' F' hR495 => ?_))
           obtain ⟨m500, rfl, rfl, rfl⟩ := hR495
           refine nxp hok (kp_imp (kp_c0 rfl)) rfl (by kernel_rfl) ?_
           clear hok
           intro hok
           refine TrAny.next (j := 17) (by kernel_rfl) hok rfl (by kernel_rfl) (op_store' (k := 1) (c' := [.slice m500.1 r19.length m500.2.1]) rfl rfl rfl rfl rfl ty40 rfl (Nat.le_of_ble_eq_true rfl) (ones (oc rfl on)) rfl ?_)
           refine nxs hok (kp_aw (by kernel_rfl)) rfl ?_
           clear hok
           intro hok
           refine TrAny.done (by kernel_rfl) (by kernel_rfl) hok (by kernel_rfl) (⟨(b130, m500.1, m500.2.1, m500.2.2), Imp.re _ [6, 1, 0] [0, 8] (sc rfl (sc rfl sn)) (by decide) rfl rfl rfl⟩)
         ·refine step_n rfl (by kernel_rfl) rfl (op_alloc' rfl (bl rfl) rfl ze40 (fun b131 => ?_))
          refine nxp hok (kp_imp (kp_cm rfl)) rfl (by kernel_rfl) ?_
          clear hok
          intro hok
          refine TrAny.next (j := 14) (by kernel_rfl) hok rfl (by kernel_rfl) (op_buildSlice' (rp := (rSl (rInt .u8))) (xs := [r15, r16, r17, r18]) (vs := [.slice m495.1 r15.length m495.2.1, .slice m496.1 r16.length m496.2.1, .slice m497.1 r17.length m497.2.1, .slice m498.1 r18.length m498.2.1]) (out := [.slice m495.1 r15.length m495.2.1, .slice m496.1 r16.length m496.2.1, .slice m497.1 r17.length m497.2.1, .slice m498.1 r18.length m498.2.1]) rfl (bl rfl) rfl sl202 ty40 ze40 rfl rfl (by decide) (by decide) rfl (fun γ w hF => (rowc ⟨_, _, rfl, hF _ (List.mem_of_getElem? (i := 3) rfl)⟩ (rowc ⟨_, _, rfl, hF _ (List.mem_of_getElem? (i := 4) rfl)⟩ (rowc ⟨_, _, rfl, hF _ (List.mem_of_getElem? (i := 5) rfl)⟩ (rowc ⟨_, _, rfl, hF _ (List.mem_of_getElem? (i := 6) rfl)⟩ rown rfl) rfl) rfl) rfl)) (fun A248 => ?_))
          refine nxp hok (kp_imp (kp_cf rfl)) rfl (by kernel_rfl) ?_
          clear hok
          intro hok
          refine TrAny.next (j := 15) (by kernel_rfl) hok rfl (by kernel_rfl) (op_call0' (vs := [.slice A248 4 4]) (cap := []) [7] rfl rfl (bl rfl) rfl rfl en64 (c_slices_Concat_byte ([r15, r16, r17, r18]) A248 4 r19 hr19) rfl (fun ret M' F' hR496 => ?_))
          obtain ⟨m501, rfl, rfl, rfl⟩ := hR496
          refine nxp hok (kp_imp (kp_c0 rfl)) rfl (by kernel_rfl) ?_
          clear hok
          intro hok
          refine TrAny.next (j := 17) (by kernel_rfl) hok rfl (by kernel_rfl) (op_store' (k := 1) (c' := [.slice m501.1 r19.length m501.2.1]) rfl rfl rfl rfl rfl ty40 rfl (Nat.le_of_ble_eq_true rfl) (ones (oc rfl on)) rfl ?_)
          refine nxs hok (kp_aw (by kernel_rfl)) rfl ?_
          clear hok
          intro hok
          refine TrAny.done (by kernel_rfl) (by kernel_rfl) hok (by kernel_rfl) (⟨(b131, m501.1, m501.2.1, m501.2.2), Imp.re _ [6, 1, 0] [0, 8] (sc rfl (sc rfl sn)) (by decide) rfl rfl rfl⟩)
        ·refine step_n rfl (by kernel_rfl) rfl (op_alloc' rfl (bl rfl) rfl ze40 (fun b132 => ?_))
         refine nxp hok (kp_imp (kp_cm rfl)) rfl (by kernel_rfl) ?_
         clear hok
         intro hok
         refine TrAny.next (j := 13) (by kernel_rfl) hok rfl (by kernel_rfl) (op_call0' (vs := [.slice A246 1 1]) (cap := []) [2] rfl rfl (bl rfl) rfl rfl en105 (c_conf_nums ([p1.2.2.2.2.1]) A246 1 r18 hr18) rfl (fun ret M' F' hR497 => ?_))
         obtain ⟨m502, rfl, rfl, rfl⟩ := hR497
         refine nxp hok (kp_imp (kp_c0 rfl)) rfl (by kernel_rfl) ?_
         clear hok
         intro hok
         refine TrAny.next (j := 14) (by kernel_rfl) hok rfl (by kernel_rfl) (op_buildSlice' (rp := (rSl (rInt .u8))) (xs := [r15, r16, r17, r18]) (vs := [.slice m495.1 r15.length m495.2.1, .slice m496.1 r16.length m496.2.1, .slice m497.1 r17.length m497.2.1, .slice m502.1 r18.length m502.2.1]) (out := [.slice m495.1 r15.length m495.2.1, .slice m496.1 r16.length m496.2.1, .slice m497.1 r17.length m497.2.1, .slice m502.1 r18.length m502.2.1]) rfl (bl rfl) rfl sl202 ty40 ze40 rfl rfl (by decide) (by decide) rfl (fun γ w hF => (rowc ⟨_, _, rfl, hF _ (List.mem_of_getElem? (i := 3) rfl)⟩ (rowc ⟨_, _, rfl, hF _ (List.mem_of_getElem? (i := 4) rfl)⟩ (rowc ⟨_, _, rfl, hF _ (List.mem_of_getElem? (i := 5) rfl)⟩ (rowc ⟨_, _, rfl, hF _ (List.mem_of_getElem? (i := 6) rfl)⟩ rown rfl) rfl) rfl) rfl)) (fun A249 => ?_))
         refine nxp hok (kp_imp (kp_cf rfl)) rfl (by kernel_rfl) ?_
         clear hok
         intro hok
         refine TrAny.next (j := 15) (by kernel_rfl) hok rfl (by kernel_rfl) (op_call0' (vs := [.slice A249 4 4]) (cap := []) [7] rfl rfl (bl rfl) rfl rfl en64 (c_slices_Concat_byte ([r15, r16, r17, r18]) A249 4 r19 hr19) rfl (fun ret M' F' hR498 => ?_))
         obtain ⟨m503, rfl, rfl, rfl⟩ := hR498
         refine nxp hok (kp_imp (kp_c0 rfl)) rfl (by kernel_rfl) ?_
         clear hok
         intro hok
         refine TrAny.next (j := 17) (by kernel_rfl) hok rfl (by kernel_rfl) (op_store' (k := 2) (c' := [.slice m503.1 r19.length m503.2.1]) rfl rfl rfl rfl rfl ty40 rfl (Nat.le_of_ble_eq_true rfl) (ones (oc rfl on)) rfl ?_)
         refine nxs hok (kp_aw (by kernel_rfl)) rfl ?_
         clear hok
         intro hok
         refine TrAny.done (by kernel_rfl) (by kernel_rfl) hok (by kernel_rfl) (⟨(b132, m503.1, m503.2.1, m503.2.2), Imp.re _ [6, 2, 0] [0, 8] (sc rfl (sc rfl sn)) (by decide) rfl rfl rfl⟩)
       ·refine step_n rfl (by kernel_rfl) rfl (op_alloc' rfl (bl rfl) rfl ze40 (fun b133 => ?_))
        refine nxp hok (kp_imp (kp_cm rfl)) rfl (by kernel_rfl) ?_
        clear hok
        intro hok
        refine TrAny.next (j := 9) (by kernel_rfl) hok rfl (by kernel_rfl) (op_call0' (vs := [.int .u64 p1.2.2.2.1]) (cap := []) [] rfl rfl (bl rfl) rfl rfl en65 (c_codec_Num p1.2.2.2.1 r17 hr17) rfl (fun ret M' F' hR499 => ?_))
        obtain ⟨m504, rfl, rfl, rfl⟩ := hR499
        refine nxp hok (kp_imp (kp_c0 rfl)) rfl (by kernel_rfl) ?_
        clear hok
        intro hok
        refine TrAny.next (j := 13) (by kernel_rfl) hok rfl (by kernel_rfl) (op_call0' (vs := [.slice A246 1 1]) (cap := []) [2] rfl rfl (bl rfl) rfl rfl en105 (c_conf_nums ([p1.2.2.2.2.1]) A246 1 r18 hr18) rfl (fun ret M' F' hR500 => ?_))
        obtain ⟨m505, rfl, rfl, rfl⟩ := hR500
        refine nxp hok (kp_imp (kp_c0 rfl)) rfl (by kernel_rfl) ?_
        clear hok
        intro hok
        refine TrAny.next (j := 14) (by kernel_rfl) hok rfl (by kernel_rfl) (op_buildSlice' (rp := (rSl (rInt .u8))) (xs := [r15, r16, r17, r18]) (vs := [.slice m495.1 r15.length m495.2.1, .slice m496.1 r16.length m496.2.1, .slice m504.1 r17.length m504.2.1, .slice m505.1 r18.length m505.2.1]) (out := [.slice m495.1 r15.length m495.2.1, .slice m496.1 r16.length m496.2.1, .slice m504.1 r17.length m504.2.1, .slice m505.1 r18.length m505.2.1]) rfl (bl rfl) rfl sl202 ty40 ze40 rfl rfl (by decide) (by decide) rfl (fun γ w hF => (rowc ⟨_, _, rfl, hF _ (List.mem_of_getElem? (i := 3) rfl)⟩ (rowc ⟨_, _, rfl, hF _ (List.mem_of_getElem? (i := 4) rfl)⟩ (rowc ⟨_, _, rfl, hF _ (List.mem_of_getElem? (i := 5) rfl)⟩ (rowc ⟨_, _, rfl, hF _ (List.mem_of_getElem? (i := 6) rfl)⟩ rown rfl) rfl) rfl) rfl)) (fun A250 => ?_))
        refine nxp hok (kp_imp (kp_cf rfl)) rfl (by kernel_rfl) ?_
        clear hok
        intro hok
        refine TrAny.next (j := 15) (by kernel_rfl) hok rfl (by kernel_rfl) (op_call0' (vs := [.slice A250 4 4]) (cap := []) [7] rfl rfl (bl rfl) rfl rfl en64 (c_slices_Concat_byte ([r15, r16, r17, r18]) A250 4 r19 hr19) rfl (fun ret M' F' hR501 => ?_))
        obtain ⟨m506, rfl, rfl, rfl⟩ := hR501
        refine nxp hok (kp_imp (kp_c0 rfl)) rfl (by kernel_rfl) ?_
        clear hok
        intro hok
        refine TrAny.next (j := 17) (by kernel_rfl) hok rfl (by kernel_rfl) (op_store' (k := 3) (c' := [.slice m506.1 r19.length m506.2.1]) rfl rfl rfl rfl rfl ty40 rfl (Nat.le_of_ble_eq_true rfl) (ones (oc rfl on)) rfl ?_)
        refine nxs hok (kp_aw (by kernel_rfl)) rfl ?_
        clear hok
        intro hok
        refine TrAny.done (by kernel_rfl) (by kernel_rfl) hok (by kernel_rfl) (⟨(b133, m506.1, m506.2.1, m506.2.2), Imp.re _ [6, 3, 0] [0, 8] (sc rfl (sc rfl sn)) (by decide) rfl rfl rfl⟩)
      ·refine step_n rfl (by kernel_rfl) rfl (op_alloc' rfl (bl rfl) rfl ze40 (fun b134 => ?_))
       refine nxp hok (kp_imp (kp_cm rfl)) rfl (by kernel_rfl) ?_
       clear hok
       intro hok
       refine TrAny.next (j := 6) (by kernel_rfl) hok rfl (by kernel_rfl) (op_call0' (vs := [.int .u64 p1.2.2.1]) (cap := []) [] rfl rfl (bl rfl) rfl rfl en65 (c_codec_Num p1.2.2.1 r16 hr16) rfl (fun ret M' F' hR502 => ?_))
       obtain ⟨m507, rfl, rfl, rfl⟩ := hR502
       refine nxp hok (kp_imp (kp_c0 rfl)) rfl (by kernel_rfl) ?_
       clear hok
       intro hok
       refine TrAny.next (j := 9) (by kernel_rfl) hok rfl (by kernel_rfl) (op_call0' (vs := [.int .u64 p1.2.2.2.1]) (cap := []) [] rfl rfl (bl rfl) rfl rfl en65 (c_codec_Num p1.2.2.2.1 r17 hr17) rfl (fun ret M' F' hR503 => ?_))
       obtain ⟨m508, rfl, rfl, rfl⟩ := hR503
       refine nxp hok (kp_imp (kp_c0 rfl)) rfl (by kernel_rfl) ?_
       clear hok
       intro hok
       refine TrAny.next (j := 13) (by kernel_rfl) hok rfl (by kernel_rfl) (op_call0' (vs := [.slice A246 1 1]) (cap := []) [2] rfl rfl (bl rfl) rfl rfl en105 (c_conf_nums ([p1.2.2.2.2.1]) A246 1 r18 hr18) rfl (fun ret M' F' hR504 => ?_))
       obtain ⟨m509, rfl, rfl, rfl⟩ := hR504
       refine nxp hok (kp_imp (kp_c0 rfl)) rfl (by kernel_rfl) ?_
       clear hok
       intro hok
       refine TrAny.next (j := 14) (by kernel_rfl) hok rfl (by kernel_rfl) (op_buildSlice' (rp := (rSl (rInt .u8))) (xs := [r15, r16, r17, r18]) (vs := [.slice m495.1 r15.length m495.2.1, .slice m507.1 r16.length m507.2.1, .slice m508.1 r17.length m508.2.1, .slice m509.1 r18.length m509.2.1]) (out := [.slice m495.1 r15.length m495.2.1, .slice m507.1 r16.length m507.2.1, .slice m508.1 r17.length m508.2.1, .slice m509.1 r18.length m509.2.1]) rfl (bl rfl) rfl sl202 ty40 ze40 rfl rfl (by decide) (by decide) rfl (fun γ w hF => (rowc ⟨_, _, rfl, hF _ (List.mem_of_getElem? (i := 3) rfl)⟩ (rowc ⟨_, _, rfl, hF _ (List.mem_of_getElem? (i := 4) rfl)⟩ (rowc ⟨_, _, rfl, hF _ (List.mem_of_getElem? (i := 5) rfl)⟩ (rowc ⟨_, _, rfl, hF _ (List.mem_of_getElem? (i := 6) rfl)⟩ rown rfl) rfl) rfl) rfl)) (fun A251 => ?_))
       refine nxp hok (kp_imp (kp_cf rfl)) rfl (by kernel_rfl) ?_
       clear hok
       intro hok
       refine TrAny.next (j := 15) (by kernel_rfl) hok rfl (by kernel_rfl) (op_call0' (vs := [.slice A251 4 4]) (cap := []) [7] rfl rfl (bl rfl) rfl rfl en64 (c_slices_Concat_byte ([r15, r16, r17, r18]) A251 4 r19 hr19) rfl (fun ret M' F' hR505 => ?_))
       obtain ⟨m510, rfl, rfl, rfl⟩ := hR505
       refine nxp hok (kp_imp (kp_c0 rfl)) rfl (by kernel_rfl) ?_
       clear hok
       intro hok
       refine TrAny.next (j := 17) (by kernel_rfl) hok rfl (by kernel_rfl) (op_store' (k := 4) (c' := [.slice m510.1 r19.length m510.2.1]) rfl rfl rfl rfl rfl ty40 rfl (Nat.le_of_ble_eq_true rfl) (ones (oc rfl on)) rfl ?_)
       refine nxs hok (kp_aw (by kernel_rfl)) rfl ?_
       clear hok
       intro hok
       refine TrAny.done (by kernel_rfl) (by kernel_rfl) hok (by kernel_rfl) (⟨(b134, m510.1, m510.2.1, m510.2.2), Imp.re _ [6, 4, 0] [0, 8] (sc rfl (sc rfl sn)) (by decide) rfl rfl rfl⟩)
     ·refine step_n rfl (by kernel_rfl) rfl (op_alloc' rfl (bl rfl) rfl ze40 (fun b135 => ?_))
      refine nxp hok (kp_imp (kp_cm rfl)) rfl (by kernel_rfl) ?_
      clear hok
      intro hok
      refine TrAny.next (j := 3) (by kernel_rfl) hok rfl (by kernel_rfl) (op_call0' (vs := [.slice A218 1 1]) (cap := []) [1] rfl rfl (bl rfl) rfl rfl en105 (c_conf_nums ([p1.1]) A218 1 r15 hr15) rfl (fun ret M' F' hR506 => ?_))
      obtain ⟨m511, rfl, rfl, rfl⟩ := hR506
      refine nxp hok (kp_imp (kp_c0 rfl)) rfl (by kernel_rfl) ?_
      clear hok
      intro hok
      refine TrAny.next (j := 6) (by kernel_rfl) hok rfl (by kernel_rfl) (op_call0' (vs := [.int .u64 p1.2.2.1]) (cap := []) [] rfl rfl (bl rfl) rfl rfl en65 (c_codec_Num p1.2.2.1 r16 hr16) rfl (fun ret M' F' hR507 => ?_))
      obtain ⟨m512, rfl, rfl, rfl⟩ := hR507
      refine nxp hok (kp_imp (kp_c0 rfl)) rfl (by kernel_rfl) ?_
      clear hok
      intro hok
      refine TrAny.next (j := 9) (by kernel_rfl) hok rfl (by kernel_rfl) (op_call0' (vs := [.int .u64 p1.2.2.2.1]) (cap := []) [] rfl rfl (bl rfl) rfl rfl en65 (c_codec_Num p1.2.2.2.1 r17 hr17) rfl (fun ret M' F' hR508 => ?_))
      obtain ⟨m513, rfl, rfl, rfl⟩ := hR508
      refine nxp hok (kp_imp (kp_c0 rfl)) rfl (by kernel_rfl) ?_
      clear hok
      intro hok
      refine TrAny.next (j := 13) (by kernel_rfl) hok rfl (by kernel_rfl) (op_call0' (vs := [.slice A246 1 1]) (cap := []) [2] rfl rfl (bl rfl) rfl rfl en105 (c_conf_nums ([p1.2.2.2.2.1]) A246 1 r18 hr18) rfl (fun ret M' F' hR509 => ?_))
      obtain ⟨m514, rfl, rfl, rfl⟩ := hR509
      refine nxp hok (kp_imp (kp_c0 rfl)) rfl (by kernel_rfl) ?_
      clear hok
      intro hok
      refine TrAny.next (j := 14) (by kernel_rfl) hok rfl (by kernel_rfl) (op_buildSlice' (rp := (rSl (rInt .u8))) (xs := [r15, r16, r17, r18]) (vs := [.slice m511.1 r15.length m511.2.1, .slice m512.1 r16.length m512.2.1, .slice m513.1 r17.length m513.2.1, .slice m514.1 r18.length m514.2.1]) (out := [.slice m511.1 r15.length m511.2.1, .slice m512.1 r16.length m512.2.1, .slice m513.1 r17.length m513.2.1, .slice m514.1 r18.length m514.2.1]) rfl (bl rfl) rfl sl202 ty40 ze40 rfl rfl (by decide) (by decide) rfl (fun γ w hF => (rowc ⟨_, _, rfl, hF _ (List.mem_of_getElem? (i := 3) rfl)⟩ (rowc ⟨_, _, rfl, hF _ (List.mem_of_getElem? (i := 4) rfl)⟩ (rowc ⟨_, _, rfl, hF _ (List.mem_of_getElem? (i := 5) rfl)⟩ (rowc ⟨_, _, rfl, hF _ (List.mem_of_getElem? (i := 6) rfl)⟩ rown rfl) rfl) rfl) rfl)) (fun A252 => ?_))
      refine nxp hok (kp_imp (kp_cf rfl)) rfl (by kernel_rfl) ?_
      clear hok
      intro hok
      refine TrAny.next (j := 15) (by kernel_rfl) hok rfl (by kernel_rfl) (op_call0' (vs := [.slice A252 4 4]) (cap := []) [7] rfl rfl (bl rfl) rfl rfl en64 (c_slices_Concat_byte ([r15, r16, r17, r18]) A252 4 r19 hr19) rfl (fun ret M' F' hR510 => ?_))
      obtain ⟨m515, rfl, rfl, rfl⟩ := hR510
      refine nxp hok (kp_imp (kp_c0 rfl)) rfl (by kernel_rfl) ?_
      clear hok
      intro hok
      refine TrAny.next (j := 17) (by kernel_rfl) hok rfl (by kernel_rfl) (op_store' (k := 5) (c' := [.slice m515.1 r19.length m515.2.1]) rfl rfl rfl rfl rfl ty40 rfl (Nat.le_of_ble_eq_true rfl) (ones (oc rfl on)) rfl ?_)
      refine nxs hok (kp_aw (by kernel_rfl)) rfl ?_
      clear hok
      intro hok
      refine TrAny.done (by kernel_rfl) (by kernel_rfl) hok (by kernel_rfl) (⟨(b135, m515.1, m515.2.1, m515.2.2), Imp.re _ [6, 5, 0] [0, 8] (sc rfl (sc rfl sn)) (by decide) rfl rfl rfl⟩)
    ·refine step_n rfl (by kernel_rfl) rfl (op_alloc' rfl (bl rfl) rfl ze40 (fun b136 => ?_))
     refine nxp hok (kp_imp (kp_cm rfl)) rfl (by kernel_rfl) ?_
     clear hok
     intro hok
     refine TrAny.fork [3, 12] (by kernel_rfl) hok ⟨3, by decide, bl rfl⟩ (by kernel_rfl) (.cons ?_ (.cons ?_ .nil))
     ·refine step_n rfl (by kernel_rfl) rfl (op_call0' (vs := [.slice A218 1 1]) (cap := []) [1] rfl rfl (bl rfl) rfl rfl en105 (c_conf_nums ([p1.1]) A218 1 r15 hr15) rfl (fun ret M' F' hR511 => ?_))
      obtain ⟨m516, rfl, rfl, rfl⟩ := hR511
      refine nxp hok (kp_imp (kp_c0 rfl)) rfl (by kernel_rfl) ?_
      clear hok
      intro hok
      refine TrAny.fork [6, 12] (by kernel_rfl) hok ⟨6, by decide, bl rfl⟩ (by kernel_rfl) (.cons ?_ (.cons ?_ .nil))
      ·refine step_n rfl (by kernel_rfl) rfl (op_call0' (vs := [.int .u64 p1.2.2.1]) (cap := []) [] rfl rfl (bl rfl) rfl rfl en65 (c_codec_Num p1.2.2.1 r16 hr16) rfl (fun ret M' F' hR512 => ?_))
       obtain ⟨m517, rfl, rfl, rfl⟩ := hR512
       refine nxp hok (kp_imp (kp_c0 rfl)) rfl (by kernel_rfl) ?_
       clear hok
       intro hok
       refine TrAny.fork [9, 12] (by kernel_rfl) hok ⟨9, by decide, bl rfl⟩ (by kernel_rfl) (.cons ?_ (.cons ?_ .nil))
       ·refine step_n rfl (by kernel_rfl) rfl (op_call0' (vs := [.int .u64 p1.2.2.2.1]) (cap := []) [] rfl rfl (bl rfl) rfl rfl en65 (c_codec_Num p1.2.2.2.1 r17 hr17) rfl (fun ret M' F' hR513 => ?_))
        obtain ⟨m518, rfl, rfl, rfl⟩ := hR513
        refine nxp hok (kp_imp (kp_c0 rfl)) rfl (by kernel_rfl) ?_
        clear hok
        intro hok
        refine TrAny.next (j := 12) (by kernel_rfl) hok rfl (by kernel_rfl) (op_buildSlice' (rp := (rInt .i64)) (xs := [p1.2.2.2.2.1]) (vs := [.int .i64 p1.2.2.2.2.1]) (out := [.int .i64 p1.2.2.2.2.1]) rfl (bl rfl) rfl sl221 ty3 ze3 rfl rfl (by decide) (by decide) rfl (fun γ w hF => (rowc rfl rown rfl)) (fun A253 => ?_))
        refine nxp hok (kp_imp (kp_cf rfl)) rfl (by kernel_rfl) ?_
        clear hok
        intro hok
        refine TrAny.next (j := 13) (by kernel_rfl) hok rfl (by kernel_rfl) (op_call0' (vs := [.slice A253 1 1]) (cap := []) [5] rfl rfl (bl rfl) rfl rfl en105 (c_conf_nums ([p1.2.2.2.2.1]) A253 1 r18 hr18) rfl (fun ret M' F' hR514 => ?_))
        obtain ⟨m519, rfl, rfl, rfl⟩ := hR514
        refine nxp hok (kp_imp (kp_c0 rfl)) rfl (by kernel_rfl) ?_
        clear hok
        intro hok
        refine TrAny.next (j := 14) (by kernel_rfl) hok rfl (by kernel_rfl) (op_buildSlice' (rp := (rSl (rInt .u8))) (xs := [r15, r16, r17, r18]) (vs := [.slice m516.1 r15.length m516.2.1, .slice m517.1 r16.length m517.2.1, .slice m518.1 r17.length m518.2.1, .slice m519.1 r18.length m519.2.1]) (out := [.slice m516.1 r15.length m516.2.1, .slice m517.1 r16.length m517.2.1, .slice m518.1 r17.length m518.2.1, .slice m519.1 r18.length m519.2.1]) rfl (bl rfl) rfl sl202 ty40 ze40 rfl rfl (by decide) (by decide) rfl (fun γ w hF => (rowc ⟨_, _, rfl, hF _ (List.mem_of_getElem? (i := 2) rfl)⟩ (rowc ⟨_, _, rfl, hF _ (List.mem_of_getElem? (i := 3) rfl)⟩ (rowc ⟨_, _, rfl, hF _ (List.mem_of_getElem? (i := 4) rfl)⟩ (rowc ⟨_, _, rfl, hF _ (List.mem_of_getElem? (i := 6) rfl)⟩ rown rfl) rfl) rfl) rfl)) (fun A254 => ?_))
        refine nxp hok (kp_imp (kp_cf rfl)) rfl (by kernel_rfl) ?_
        clear hok
        intro hok
        refine TrAny.next (j := 15) (by kernel_rfl) hok rfl (by kernel_rfl) (op_call0' (vs := [.slice A254 4 4]) (cap := []) [7] rfl rfl (bl rfl) rfl rfl en64 (c_slices_Concat_byte ([r15, r16, r17, r18]) A254 4 r19 hr19) rfl (fun ret M' F' hR515 => ?_))
        obtain ⟨m520, rfl, rfl, rfl⟩ := hR515
        refine nxp hok (kp_imp (kp_c0 rfl)) rfl (by kernel_rfl) ?_
        clear hok
        intro hok
        refine TrAny.next (j := 17) (by kernel_rfl) hok rfl (by kernel_rfl) (op_store' (k := 5) (c' := [.slice m520.1 r19.length m520.2.1]) rfl rfl rfl rfl rfl ty40 rfl (Nat.le_of_ble_eq_true rfl) (ones (oc rfl on)) rfl ?_)
        refine nxs hok (kp_aw (by kernel_rfl)) rfl ?_
        clear hok
        intro hok
        refine TrAny.done (by kernel_rfl) (by kernel_rfl) hok (by kernel_rfl) (⟨(b136, m520.1, m520.2.1, m520.2.2), Imp.re _ [6, 5, 0] [0, 8] (sc rfl (sc rfl sn)) (by decide) rfl rfl rfl⟩)
       ·refine step_n rfl (by kernel_rfl) rfl (op_buildSlice' (rp := (rInt .i64)) (xs := [p1.2.2.2.2.1]) (vs := [.int .i64 p1.2.2.2.2.1]) (out := [.int .i64 p1.2.2.2.2.1]) rfl (bl rfl) rfl sl221 ty3 ze3 rfl rfl (by decide) (by decide) rfl (fun γ w hF => (rowc rfl rown rfl)) (fun A255 => ?_))
        refine nxp hok (kp_imp (kp_cf rfl)) rfl (by kernel_rfl) ?_
        clear hok
        intro hok
        refine TrAny.next (j := 9) (by kernel_rfl) hok rfl (by kernel_rfl) (op_call0' (vs := [.int .u64 p1.2.2.2.1]) (cap := []) [] rfl rfl (bl rfl) rfl rfl en65 (c_codec_Num p1.2.2.2.1 r17 hr17) rfl (fun ret M' F' hR516 => ?_))
        obtain ⟨m521, rfl, rfl, rfl⟩ := hR516
        refine nxp hok (kp_imp (kp_c0 rfl)) rfl (by kernel_rfl) ?_
        clear hok
        intro hok
        refine TrAny.next (j := 13) (by kernel_rfl) hok rfl (by kernel_rfl) (op_call0' (vs := [.slice A255 1 1]) (cap := []) [4] rfl rfl (bl rfl) rfl rfl en105 (c_conf_nums ([p1.2.2.2.2.1]) A255 1 r18 hr18) rfl (fun ret M' F' hR517 => ?_))
        obtain ⟨m522, rfl, rfl, rfl⟩ := hR517
        refine nxp hok (kp_imp (kp_c0 rfl)) rfl (by kernel_rfl) ?_
        clear hok
        intro hok
        refine TrAny.next (j := 14) (by kernel_rfl) hok rfl (by kernel_rfl) (op_buildSlice' (rp := (rSl (rInt .u8))) (xs := [r15, r16, r17, r18]) (vs := [.slice m516.1 r15.length m516.2.1, .slice m517.1 r16.length m517.2.1, .slice m521.1 r17.length m521.2.1, .slice m522.1 r18.length m522.2.1]) (out := [.slice m516.1 r15.length m516.2.1, .slice m517.1 r16.length m517.2.1, .slice m521.1 r17.length m521.2.1, .slice m522.1 r18.length m522.2.1]) rfl (bl rfl) rfl sl202 ty40 ze40 rfl rfl (by decide) (by decide) rfl (fun γ w hF => (rowc ⟨_, _, rfl, hF _ (List.mem_of_getElem? (i := 2) rfl)⟩ (rowc ⟨_, _, rfl, hF _ (List.mem_of_getElem? (i := 3) rfl)⟩ (rowc ⟨_, _, rfl, hF _ (List.mem_of_getElem? (i := 5) rfl)⟩ (rowc ⟨_, _, rfl, hF _ (List.mem_of_getElem? (i := 6) rfl)⟩ rown rfl) rfl) rfl) rfl)) (fun A256 => ?_))
        refine nxp hok (kp_imp (kp_cf rfl)) rfl (by kernel_rfl) ?_
        clear hok
        intro hok
        refine TrAny.next (j := 15) (by kernel_rfl) hok rfl (by kernel_rfl) (op_call0' (vs := [.slice A256 4 4]) (cap := []) [7] rfl rfl (bl rfl) rfl rfl en64 (c_slices_Concat_byte ([r15, r16, r17, r18]) A256 4 r19 hr19) rfl (fun ret M' F' hR518 => ?_))
        obtain ⟨m523, rfl, rfl, rfl⟩ := hR518
        refine nxp hok (kp_imp (kp_c0 rfl)) rfl (by kernel_rfl) ?_
        clear hok
        intro hok
        refine TrAny.next (j := 17) (by kernel_rfl) hok rfl (by kernel_rfl) (op_store' (k := 5) (c' := [.slice m523.1 r19.length m523.2.1]) rfl rfl rfl rfl rfl ty40 rfl (Nat.le_of_ble_eq_true rfl) (ones (oc rfl on)) rfl ?_)
        refine nxs hok (kp_aw (by kernel_rfl)) rfl ?_
        clear hok
        intro hok
        refine TrAny.done (by kernel_rfl) (by kernel_rfl) hok (by kernel_rfl) (⟨(b136, m523.1, m523.2.1, m523.2.2), Imp.re _ [6, 5, 0] [0, 8] (sc rfl (sc rfl sn)) (by decide) rfl rfl rfl⟩)
      ·refine step_n rfl (by kernel_rfl) rfl (op_buildSlice' (rp := (rInt .i64)) (xs := [p1.2.2.2.2.1]) (vs := [.int .i64 p1.2.2.2.2.1]) (out := [.int .i64 p1.2.2.2.2.1]) rfl (bl rfl) rfl sl221 ty3 ze3 rfl rfl (by decide) (by decide) rfl (fun γ w hF => (rowc rfl rown rfl)) (fun A257 => ?_))
       refine nxp hok (kp_imp (kp_cf rfl)) rfl (by kernel_rfl) ?_
       clear hok
       intro hok
       refine TrAny.next (j := 6) (by kernel_rfl) hok rfl (by kernel_rfl) (op_call0' (vs := [.int .u64 p1.2.2.1]) (cap := []) [] rfl rfl (bl rfl) rfl rfl en65 (c_codec_Num p1.2.2.1 r16 hr16) rfl (fun ret M' F' hR519 => ?_))
       obtain ⟨m524, rfl, rfl, rfl⟩ := hR519
       refine nxp hok (kp_imp (kp_c0 rfl)) rfl (by kernel_rfl) ?_
       clear hok
       intro hok
       refine TrAny.next (j := 9) (by kernel_rfl) hok rfl (by kernel_rfl) (op_call0' (vs := [.int .u64 p1.2.2.2.1]) (cap := []) [] rfl rfl (bl rfl) rfl rfl en65 (c_codec_Num p1.2.2.2.1 r17 hr17) rfl (fun ret M' F' hR520 => ?_))
       obtain ⟨m525, rfl, rfl, rfl⟩ := hR520
       refine nxp hok (kp_imp (kp_c0 rfl)) rfl (by kernel_rfl) ?_
       clear hok
       intro hok
       refine TrAny.next (j := 13) (by kernel_rfl) hok rfl (by kernel_rfl) (op_call0' (vs := [.slice A257 1 1]) (cap := []) [3] rfl rfl (bl rfl) rfl rfl en105 (c_conf_nums ([p1.2.2.2.2.1]) A257 1 r18 hr18) rfl (fun ret M' F' hR521 => ?_))
       obtain ⟨m526, rfl, rfl, rfl⟩ := hR521
       refine nxp hok (kp_imp (kp_c0 rfl)) rfl (by kernel_rfl) ?_
       clear hok
       intro hok
       refine TrAny.next (j := 14) (by kernel_rfl) hok rfl (by kernel_rfl) (op_buildSlice' (rp := (rSl (rInt .u8))) (xs := [r15, r16, r17, r18]) (vs := [.slice m516.1 r15.length m516.2.1, .slice m524.1 r16.length m524.2.1, .slice m525.1 r17.length m525.2.1, .slice m526.1 r18.length m526.2.1]) (out := [.slice m516.1 r15.length m516.2.1, .slice m524.1 r16.length m524.2.1, .slice m525.1 r17.length m525.2.1, .slice m526.1 r18.length m526.2.1]) rfl (bl rfl) rfl sl202 ty40 ze40 rfl rfl (by decide) (by decide) rfl (fun γ w hF => (rowc ⟨_, _, rfl, hF _ (List.mem_of_getElem? (i := 2) rfl)⟩ (rowc ⟨_, _, rfl, hF _ (List.mem_of_getElem? (i := 4) rfl)⟩ (rowc ⟨_, _, rfl, hF _ (List.mem_of_getElem? (i := 5) rfl)⟩ (rowc ⟨_, _, rfl, hF _ (List.mem_of_getElem? (i := 6) rfl)⟩ rown rfl) rfl) rfl) rfl)) (fun A258 => ?_))
       refine nxp hok (kp_imp (kp_cf rfl)) rfl (by kernel_rfl) ?_
       clear hok
       intro hok
       refine TrAny.next (j := 15) (by kernel_rfl) hok rfl (by kernel_rfl) (op_call0' (vs := [.slice A258 4 4]) (cap := []) [7] rfl rfl (bl rfl) rfl rfl en64 (c_slices_Concat_byte ([r15, r16, r17, r18]) A258 4 r19 hr19) rfl (fun ret M' F' hR522 => ?_))
       obtain ⟨m527, rfl, rfl, rfl⟩ := hR522
       refine nxp hok (kp_imp (kp_c0 rfl)) rfl (by kernel_rfl) ?_
       clear hok
       intro hok
       refine TrAny.next (j := 17) (by kernel_rfl) hok rfl (by kernel_rfl) (op_store' (k := 5) (c' := [.slice m527.1 r19.length m527.2.1]) rfl rfl rfl rfl rfl ty40 rfl (Nat.le_of_ble_eq_true rfl) (ones (oc rfl on)) rfl ?_)
       refine nxs hok (kp_aw (by kernel_rfl)) rfl ?_
       clear hok
       intro hok
       refine TrAny.done (by kernel_rfl) (by kernel_rfl) hok (by kernel_rfl) (⟨(b136, m527.1, m527.2.1, m527.2.2), Imp.re _ [6, 5, 0] [0, 8] (sc rfl (sc rfl sn)) (by decide) rfl rfl rfl⟩)
     ·refine step_n rfl (by kernel_rfl) rfl (op_buildSlice' (rp := (rInt .i64)) (xs := [p1.2.2.2.2.1]) (vs := [.int .i64 p1.2.2.2.2.1]) (out := [.int .i64 p1.2.2.2.2.1]) rfl (bl rfl) rfl sl221 ty3 ze3 rfl rfl (by decide) (by decide) rfl (fun γ w hF => (rowc rfl rown rfl)) (fun A259 => ?_))
      refine nxp hok (kp_imp (kp_cf rfl)) rfl (by kernel_rfl) ?_
      clear hok
      intro hok
      refine TrAny.next (j := 3) (by kernel_rfl) hok rfl (by kernel_rfl) (op_call0' (vs := [.slice A218 1 1]) (cap := []) [1] rfl rfl (bl rfl) rfl rfl en105 (c_conf_nums ([p1.1]) A218 1 r15 hr15) rfl (fun ret M' F' hR523 => ?_))
      obtain ⟨m528, rfl, rfl, rfl⟩ := hR523
      refine nxp hok (kp_imp (kp_c0 rfl)) rfl (by kernel_rfl) ?_
      clear hok
      intro hok
      refine TrAny.next (j := 6) (by kernel_rfl) hok rfl (by kernel_rfl) (op_call0' (vs := [.int .u64 p1.2.2.1]) (cap := []) [] rfl rfl (bl rfl) rfl rfl en65 (c_codec_Num p1.2.2.1 r16 hr16) rfl (fun ret M' F' hR524 => ?_))
      obtain ⟨m529, rfl, rfl, rfl⟩ := hR524
      refine nxp hok (kp_imp (kp_c0 rfl)) rfl (by kernel_rfl) ?_
      clear hok
      intro hok
      refine TrAny.next (j := 9) (by kernel_rfl) hok rfl (by kernel_rfl) (op_call0' (vs := [.int .u64 p1.2.2.2.1]) (cap := []) [] rfl rfl (bl rfl) rfl rfl en65 (c_codec_Num p1.2.2.2.1 r17 hr17) rfl (fun ret M' F' hR525 => ?_))
      obtain ⟨m530, rfl, rfl, rfl⟩ := hR525
      refine nxp hok (kp_imp (kp_c0 rfl)) rfl (by kernel_rfl) ?_
      clear hok
      intro hok
      refine TrAny.next (j := 13) (by kernel_rfl) hok rfl (by kernel_rfl) (op_call0' (vs := [.slice A259 1 1]) (cap := []) [2] rfl rfl (bl rfl) rfl rfl en105 (c_conf_nums ([p1.2.2.2.2.1]) A259 1 r18 hr18) rfl (fun ret M' F' hR526 => ?_))
      obtain ⟨m531, rfl, rfl, rfl⟩ := hR526
      refine nxp hok (kp_imp (kp_c0 rfl)) rfl (by kernel_rfl) ?_
      clear hok
      intro hok
      refine TrAny.next (j := 14) (by kernel_rfl) hok rfl (by kernel_rfl) (op_buildSlice' (rp := (rSl (rInt .u8))) (xs := [r15, r16, r17, r18]) (vs := [.slice m528.1 r15.length m528.2.1, .slice m529.1 r16.length m529.2.1, .slice m530.1 r17.length m530.2.1, .slice m531.1 r18.length m531.2.1]) (out := [.slice m528.1 r15.length m528.2.1, .slice m529.1 r16.length m529.2.1, .slice m530.1 r17.length m530.2.1, .slice m531.1 r18.length m531.2.1]) rfl (bl rfl) rfl sl202 ty40 ze40 rfl rfl (by decide) (by decide) rfl (fun γ w hF => (rowc ⟨_, _, rfl, hF _ (List.mem_of_getElem? (i := 3) rfl)⟩ (rowc ⟨_, _, rfl, hF _ (List.mem_of_getElem? (i := 4) rfl)⟩ (rowc ⟨_, _, rfl, hF _ (List.mem_of_getElem? (i := 5) rfl)⟩ (rowc ⟨_, _, rfl, hF _ (List.mem_of_getElem? (i := 6) rfl)⟩ rown rfl) rfl) rfl) rfl)) (fun A260 => ?_))
      refine nxp hok (kp_imp (kp_cf rfl)) rfl (by kernel_rfl) ?_
      clear hok
      intro hok
      refine TrAny.next (j := 15) (by kernel_rfl) hok rfl (by kernel_rfl) (op_call0' (vs := [.slice A260 4 4]) (cap := []) [7] rfl rfl (bl rfl) rfl rfl en64 (c_slices_Concat_byte ([r15, r16, r17, r18]) A260 4 r19 hr19) rfl (fun ret M' F' hR527 => ?_))
      obtain ⟨m532, rfl, rfl, rfl⟩ := hR527
      refine nxp hok (kp_imp (kp_c0 rfl)) rfl (by kernel_rfl) ?_
      clear hok
      intro hok
      refine TrAny.next (j := 17) (by kernel_rfl) hok rfl (by kernel_rfl) (op_store' (k := 5) (c' := [.slice m532.1 r19.length m532.2.1]) rfl rfl rfl rfl rfl ty40 rfl (Nat.le_of_ble_eq_true rfl) (ones (oc rfl on)) rfl ?_)
      refine nxs hok (kp_aw (by kernel_rfl)) rfl ?_
      clear hok
      intro hok
      refine TrAny.done (by kernel_rfl) (by kernel_rfl) hok (by kernel_rfl) (⟨(b136, m532.1, m532.2.1, m532.2.2), Imp.re _ [6, 5, 0] [0, 8] (sc rfl (sc rfl sn)) (by decide) rfl rfl rfl⟩)
   ·refine step_n rfl (by kernel_rfl) rfl (op_buildSlice' (rp := (rInt .i64)) (xs := [p1.2.2.2.2.1]) (vs := [.int .i64 p1.2.2.2.2.1]) (out := [.int .i64 p1.2.2.2.2.1]) rfl (bl rfl) rfl sl221 ty3 ze3 rfl rfl (by decide) (by decide) rfl (fun γ w hF => (rowc rfl rown rfl)) (fun A261 => ?_))
    refine nxp hok (kp_imp (kp_cf rfl)) rfl (by kernel_rfl) ?_
    clear hok
    intro hok
    refine TrAny.fork [2, 16] (by kernel_rfl) hok ⟨2, by decide, bl rfl⟩ (by kernel_rfl) (.cons ?_ (.cons ?_ .nil))
    ·refine step_n rfl (by kernel_rfl) rfl (op_buildSlice' (rp := (rInt .i64)) (xs := [p1.1]) (vs := [.int .i64 p1.1]) (out := [.int .i64 p1.1]) rfl (bl rfl) rfl sl221 ty3 ze3 rfl rfl (by decide) (by decide) rfl (fun γ w hF => (rowc rfl rown rfl)) (fun A262 => ?_))
     refine nxp hok (kp_imp (kp_cf rfl)) rfl (by kernel_rfl) ?_
     clear hok
     intro hok
     refine TrAny.fork [3, 16] (by kernel_rfl) hok ⟨3, by decide, bl rfl⟩ (by kernel_rfl) (.cons ?_ (.cons ?_ .nil))
     ·refine step_n rfl (by kernel_rfl) rfl (op_call0' (vs := [.slice A262 1 1]) (cap := []) [2] rfl rfl (bl rfl) rfl rfl en105 (c_conf_nums ([p1.1]) A262 1 r15 hr15) rfl (fun ret M' F' hR528 => ?_))
      obtain ⟨m533, rfl, rfl, rfl⟩ := hR528
      refine nxp hok (kp_imp (kp_c0 rfl)) rfl (by kernel_rfl) ?_
      clear hok
      intro hok
      refine TrAny.fork [6, 16] (by kernel_rfl) hok ⟨6, by decide, bl rfl⟩ (by kernel_rfl) (.cons ?_ (.cons ?_ .nil))
      ·refine step_n rfl (by kernel_rfl) rfl (op_call0' (vs := [.int .u64 p1.2.2.1]) (cap := []) [] rfl rfl (bl rfl) rfl rfl en65 (c_codec_Num p1.2.2.1 r16 hr16) rfl (fun ret M' F' hR529 => ?_))
       obtain ⟨m534, rfl, rfl, rfl⟩ := hR529
       refine nxp hok (kp_imp (kp_c0 rfl)) rfl (by kernel_rfl) ?_
       clear hok
       intro hok
       refine TrAny.fork [9, 16] (by kernel_rfl) hok ⟨9, by decide, bl rfl⟩ (by kernel_rfl) (.cons ?_ (.cons ?_ .nil))
       ·refine step_n rfl (by kernel_rfl) rfl (op_call0' (vs := [.int .u64 p1.2.2.2.1]) (cap := []) [] rfl rfl (bl rfl) rfl rfl en65 (c_codec_Num p1.2.2.2.1 r17 hr17) rfl (fun ret M' F' hR530 => ?_))
        obtain ⟨m535, rfl, rfl, rfl⟩ := hR530
        refine nxp hok (kp_imp (kp_c0 rfl)) rfl (by kernel_rfl) ?_
        clear hok
        intro hok
        refine TrAny.fork [13, 16] (by kernel_rfl) hok ⟨13, by decide, bl rfl⟩ (by kernel_rfl) (.cons ?_ (.cons ?_ .nil))
        ·refine step_n rfl (by kernel_rfl) rfl (op_call0' (vs := [.slice A261 1 1]) (cap := []) [1] rfl rfl (bl rfl) rfl rfl en105 (c_conf_nums ([p1.2.2.2.2.1]) A261 1 r18 hr18) rfl (fun ret M' F' hR531 => ?_))
         obtain ⟨m536, rfl, rfl, rfl⟩ := hR531
         refine nxp hok (kp_imp (kp_c0 rfl)) rfl (by kernel_rfl) ?_
         clear hok
         intro hok
         refine TrAny.fork [14, 16] (by kernel_rfl) hok ⟨14, by decide, bl rfl⟩ (by kernel_rfl) (.cons ?_ (.cons ?_ .nil))
         ·refine step_n rfl (by kernel_rfl) rfl (op_buildSlice' (rp := (rSl (rInt .u8))) (xs := [r15, r16, r17, r18]) (vs := [.slice m533.1 r15.length m533.2.1, .slice m534.1 r16.length m534.2.1, .slice m535.1 r17.length m535.2.1, .slice m536.1 r18.length m536.2.1]) (out := [.slice m533.1 r15.length m533.2.1, .slice m534.1 r16.length m534.2.1, .slice m535.1 r17.length m535.2.1, .slice m536.1 r18.length m536.2.1]) rfl (bl rfl) rfl sl202 ty40 ze40 rfl rfl (by decide) (by decide) rfl (fun γ w hF => (rowc ⟨_, _, rfl, hF _ (List.mem_of_getElem? (i := 3) rfl)⟩ (rowc ⟨_, _, rfl, hF _ (List.mem_of_getElem? (i := 4) rfl)⟩ (rowc ⟨_, _, rfl, hF _ (List.mem_of_getElem? (i := 5) rfl)⟩ (rowc ⟨_, _, rfl, hF _ (List.mem_of_getElem? (i := 6) rfl)⟩ rown rfl) rfl) rfl) rfl)) (fun A263 => ?_))
          refine nxp hok (kp_imp (kp_cf rfl)) rfl (by kernel_rfl) ?_
          clear hok
          intro hok
          refine TrAny.fork [15, 16] (by kernel_rfl) hok ⟨15, by decide, bl rfl⟩ (by kernel_rfl) (.cons ?_ (.cons ?_ .nil))
          ·refine step_n rfl (by kernel_rfl) rfl (op_call0' (vs := [.slice A263 4 4]) (cap := []) [7] rfl rfl (bl rfl) rfl rfl en64 (c_slices_Concat_byte ([r15, r16, r17, r18]) A263 4 r19 hr19) rfl (fun ret M' F' hR532 => ?_))
           obtain ⟨m537, rfl, rfl, rfl⟩ := hR532
           refine nxp hok (kp_imp (kp_c0 rfl)) rfl (by kernel_rfl) ?_
           clear hok
           intro hok
           refine TrAny.next (j := 16) (by kernel_rfl) hok rfl (by kernel_rfl) (op_alloc' rfl (bl rfl) rfl ze40 (fun b137 => ?_))
           refine nxp hok (kp_imp (kp_cm rfl)) rfl (by kernel_rfl) ?_
           clear hok
           intro hok
           refine TrAny.next (j := 17) (by kernel_rfl) hok rfl (by kernel_rfl) (op_store' (k := 0) (c' := [.slice m537.1 r19.length m537.2.1]) rfl rfl rfl rfl rfl ty40 rfl (Nat.le_of_ble_eq_true rfl) (ones (oc rfl on)) rfl ?_)
           refine nxs hok (kp_aw (by kernel_rfl)) rfl ?_
           clear hok
           intro hok
           refine TrAny.done (by kernel_rfl) (by kernel_rfl) hok (by kernel_rfl) (⟨(b137, m537.1, m537.2.1, m537.2.2), Imp.re _ [6, 0, 1] [0, 8] (sc rfl (sc rfl sn)) (by decide) rfl rfl rfl⟩)
          ·refine step_n rfl (by kernel_rfl) rfl (op_alloc' rfl (bl rfl) rfl ze40 (fun b138 => ?_))
           refine nxp hok (kp_imp (kp_cm rfl)) rfl (by kernel_rfl) ?_
           clear hok
           intro hok
           refine TrAny.next (j := 15) (by kernel_rfl) hok rfl (by kernel_rfl) (op_call0' (vs := [.slice A263 4 4]) (cap := []) [7] rfl rfl (bl rfl) rfl rfl en64 (c_slices_Concat_byte ([r15, r16, r17, r18]) A263 4 r19 hr19) rfl (fun ret M' F' hR533 => ?_))
           obtain ⟨m538, rfl, rfl, rfl⟩ := hR533
           refine nxp hok (kp_imp (kp_c0 rfl)) rfl (by kernel_rfl) ?_
           clear hok
           intro hok
           refine TrAny.next (j := 17) (by kernel_rfl) hok rfl (by kernel_rfl) (op_store' (k := 1) (c' := [.slice m538.1 r19.length m538.2.1]) rfl rfl rfl rfl rfl ty40 rfl (Nat.le_of_ble_eq_true rfl) (ones (oc rfl on)) rfl ?_)
           refine nxs hok (kp_aw (by kernel_rfl)) rfl ?_
           clear hok
           intro hok
           refine TrAny.done (by kernel_rfl) (by kernel_rfl) hok (by kernel_rfl) (⟨(b138, m538.1, m538.2.1, m538.2.2), Imp.re _ [6, 1, 0] [0, 8] (sc rfl (sc rfl sn)) (by decide) rfl rfl rfl⟩)
         ·refine step_n rfl (by kernel_rfl) rfl (op_alloc' rfl (bl rfl) rfl ze40 (fun b139 => ?_))
          refine nxp hok (kp_imp (kp_cm rfl)) rfl (by kernel_rfl) ?_
          clear hok
          intro hok
          refine TrAny.next (j := 14) (by kernel_rfl) hok rfl (by kernel_rfl) (op_buildSlice' (rp := (rSl (rInt .u8))) (xs := [r15, r16, r17, r18]) (vs := [.slice m533.1 r15.length m533.2.1, .slice m534.1 r16.length m534.2.1, .slice m535.1 r17.length m535.2.1, .slice m536.1 r18.length m536.2.1]) (out := [.slice m533.1 r15.length m533.2.1, .slice m534.1 r16.length m534.2.1, .slice m535.1 r17.length m535.2.1, .slice m536.1 r18.length m536.2.1]) rfl (bl rfl) rfl sl202 ty40 ze40 rfl rfl (by decide) (by decide) rfl (fun γ w hF => (rowc ⟨_, _, rfl, hF _ (List.mem_of_getElem? (i := 3) rfl)⟩ (rowc ⟨_, _, rfl, hF _ (List.mem_of_getElem? (i := 4) rfl)⟩ (rowc ⟨_, _, rfl, hF _ (List.mem_of_getElem? (i := 5) rfl)⟩ (rowc ⟨_, _, rfl, hF _ (List.mem_of_getElem? (i := 6) rfl)⟩ rown rfl) rfl) rfl) rfl)) (fun A264 => ?_))
          refine nxp hok (kp_imp (kp_cf rfl)) rfl (by kernel_rfl) ?_
          clear hok
          intro hok
          refine TrAny.next (j := 15) (by kernel_rfl) hok rfl (by kernel_rfl) (op_call0' (vs := [.slice A264 4 4]) (cap := []) [7] rfl rfl (bl rfl) rfl rfl en64 (c_slices_Concat_byte ([r15, r16, r17, r18]) A264 4 r19 hr19) rfl (fun ret M' F' hR534 => ?_))
          obtain ⟨m539, rfl, rfl, rfl⟩ := hR534
          refine nxp hok (kp_imp (kp_c0 rfl)) rfl (by kernel_rfl) ?_
          clear hok
          intro hok
          refine TrAny.next (j := 17) (by kernel_rfl) hok rfl (by kernel_rfl) (op_store' (k := 1) (c' := [.slice m539.1 r19.length m539.2.1]) rfl rfl rfl rfl rfl ty40 rfl (Nat.le_of_ble_eq_true rfl) (ones (oc rfl on)) rfl ?_)
          refine nxs hok (kp_aw (by kernel_rfl)) rfl ?_
          clear hok
          intro hok
          refine TrAny.done (by kernel_rfl) (by kernel_rfl) hok (by kernel_rfl) (⟨(b139, m539.1, m539.2.1, m539.2.2), Imp.re _ [6, 1, 0] [0, 8] (sc rfl (sc rfl sn)) (by decide) rfl rfl rfl⟩)
        ·refine step_n rfl (by kernel_rfl) rfl (op_alloc' rfl (bl rfl) rfl ze40 (fun b140 => ?_))
         refine nxp hok (kp_imp (kp_cm rfl)) rfl (by kernel_rfl) ?_
         clear hok
         intro hok
         refine TrAny.next (j := 13) (by kernel_rfl) hok rfl (by kernel_rfl) (op_call0' (vs := [.slice A261 1 1]) (cap := []) [1] rfl rfl (bl rfl) rfl rfl en105 (c_conf_nums ([p1.2.2.2.2.1]) A261 1 r18 hr18) rfl (fun ret M' F' hR535 => ?_))
         obtain ⟨m540, rfl, rfl, rfl⟩ := hR535
         refine nxp hok (kp_imp (kp_c0 rfl)) rfl (by kernel_rfl) ?_
         clear hok
         intro hok
         refine TrAny.next (j := 14) (by kernel_rfl) hok rfl (by kernel_rfl) (op_buildSlice' (rp := (rSl (rInt .u8))) (xs := [r15, r16, r17, r18]) (vs := [.slice m533.1 r15.length m533.2.1, .slice m534.1 r16.length m534.2.1, .slice m535.1 r17.length m535.2.1, .slice m540.1 r18.length m540.2.1]) (out := [.slice m533.1 r15.length m533.2.1, .slice m534.1 r16.length m534.2.1, .slice m535.1 r17.length m535.2.1, .slice m540.1 r18.length m540.2.1]) rfl (bl rfl) rfl sl202 ty40 ze40 rfl rfl (by decide) (by decide) rfl (fun γ w hF => (rowc ⟨_, _, rfl, hF _ (List.mem_of_getElem? (i := 3) rfl)⟩ (rowc ⟨_, _, rfl, hF _ (List.mem_of_getElem? (i := 4) rfl)⟩ (rowc ⟨_, _, rfl, hF _ (List.mem_of_getElem? (i := 5) rfl)⟩ (rowc ⟨_, _, rfl, hF _ (List.mem_of_getElem? (i := 6) rfl)⟩ rown rfl) rfl) rfl) rfl)) (fun A265 => ?_))
         refine nxp hok (kp_imp (kp_cf rfl)) rfl (by kernel_rfl) ?_
         clear hok
         intro hok
         refine TrAny.next (j := 15) (by kernel_rfl) hok rfl (by kernel_rfl) (op_call0' (vs := [.slice A265 4 4]) (cap := []) [7] rfl rfl (bl rfl) rfl rfl en64 (c_slices_Concat_byte ([r15, r16, r17, r18]) A265 4 r19 hr19) rfl (fun ret M' F' hR536 => ?_))
         obtain ⟨m541, rfl, rfl, rfl⟩ := hR536
         refine nxp hok (kp_imp (kp_c0 rfl)) rfl (by kernel_rfl) ?_
         clear hok
         intro hok
         refine TrAny.next (j := 17) (by kernel_rfl) hok rfl (by kernel_rfl) (op_store' (k := 2) (c' := [.slice m541.1 r19.length m541.2.1]) rfl rfl rfl rfl rfl ty40 rfl (Nat.le_of_ble_eq_true rfl) (ones (oc rfl on)) rfl ?_)
         refine nxs hok (kp_aw (by kernel_rfl)) rfl ?_
         clear hok
         intro hok
         refine TrAny.done (by kernel_rfl) (by kernel_rfl) hok (by kernel_rfl) (⟨(b140, m541.1, m541.2.1, m541.2.2), Imp.re _ [6, 2, 0] [0, 8] (sc rfl (sc rfl sn)) (by decide) rfl rfl rfl⟩)
       ·refine step_n rfl (by kernel_rfl) rfl (op_alloc' rfl (bl rfl) rfl ze40 (fun b141 => ?_))
        refine nxp hok (kp_imp (kp_cm rfl)) rfl (by kernel_rfl) ?_
        clear hok
        intro hok
        refine TrAny.next (j := 9) (by kernel_rfl) hok rfl (by kernel_rfl) (op_call0' (vs := [.int .u64 p1.2.2.2.1]) (cap := []) [] rfl rfl (bl rfl) rfl rfl en65 (c_codec_Num p1.2.2.2.1 r17 hr17) rfl (fun ret M' F' hR537 => ?_))
        obtain ⟨m542, rfl, rfl, rfl⟩ := hR537
        refine nxp hok (kp_imp (kp_c0 rfl)) rfl (by kernel_rfl) ?_
        clear hok
        intro hok
        refine TrAny.next (j := 13) (by kernel_rfl) hok rfl (by kernel_rfl) (op_call0' (vs := [.slice A261 1 1]) (cap := []) [1] rfl rfl (bl rfl) rfl rfl en105 (c_conf_nums ([p1.2.2.2.2.1]) A261 1 r18 hr18) rfl (fun ret M' F' hR538 => ?_))
        obtain ⟨m543, rfl, rfl, rfl⟩ := hR538
        refine nxp hok (kp_imp (kp_c0 rfl)) rfl (by kernel_rfl) ?_
        clear hok
        intro hok
        refine TrAny.next (j := 14) (by kernel_rfl) hok rfl (by kernel_rfl) (op_buildSlice' (rp := (rSl (rInt .u8))) (xs := [r15, r16, r17, r18]) (vs := [.slice m533.1 r15.length m533.2.1, .slice m534.1 r16.length m534.2.1, .slice m542.1 r17.length m542.2.1, .slice m543.1 r18.length m543.2.1]) (out := [.slice m533.1 r15.length m533.2.1, .slice m534.1 r16.length m534.2.1, .slice m542.1 r17.length m542.2.1, .slice m543.1 r18.length m543.2.1]) rfl (bl rfl) rfl sl202 ty40 ze40 rfl rfl (by decide) (by decide) rfl (fun γ w hF => (rowc ⟨_, _, rfl, hF _ (List.mem_of_getElem? (i := 3) rfl)⟩ (rowc ⟨_, _, rfl, hF _ (List.mem_of_getElem? (i := 4) rfl)⟩ (rowc ⟨_, _, rfl, hF _ (List.mem_of_getElem? (i := 5) rfl)⟩ (rowc ⟨_, _, rfl, hF _ (List.mem_of_getElem? (i := 6) rfl)⟩ rown rfl) rfl) rfl) rfl)) (fun A266 => ?_))
        refine nxp hok (kp_imp (kp_cf rfl)) rfl (by kernel_rfl) ?_
        clear hok
        intro hok
        refine TrAny.next (j := 15) (by kernel_rfl) hok rfl (by kernel_rfl) (op_call0' (vs := [.slice A266 4 4]) (cap := []) [7] rfl rfl (bl rfl) rfl rfl en64 (c_slices_Concat_byte ([r15, r16, r17, r18]) A266 4 r19 hr19) rfl (fun ret M' F' hR539 => ?_))
        obtain ⟨m544, rfl, rfl, rfl⟩ := hR539
        refine nxp hok (kp_imp (kp_c0 rfl)) rfl (by kernel_rfl) ?_
        clear hok
        intro hok
        refine TrAny.next (j := 17) (by kernel_rfl) hok rfl (by kernel_rfl) (op_store' (k := 3) (c' := [.slice m544.1 r19.length m544.2.1]) rfl rfl rfl rfl rfl ty40 rfl (Nat.le_of_ble_eq_true rfl) (ones (oc rfl on)) rfl ?_)
        refine nxs hok (kp_aw (by kernel_rfl)) rfl ?_
        clear hok
        intro hok
        refine TrAny.done (by kernel_rfl) (by kernel_rfl) hok (by kernel_rfl) (⟨(b141, m544.1, m544.2.1, m544.2.2), Imp.re _ [6, 3, 0] [0, 8] (sc rfl (sc rfl sn)) (by decide) rfl rfl rfl⟩)
      ·refine step_n rfl (by kernel_rfl) rfl (op_alloc' rfl (bl rfl) rfl ze40 (fun b142 => ?_))
       refine nxp hok (kp_imp (kp_cm rfl)) rfl (by kernel_rfl) ?_
       clear hok
       intro hok
       refine TrAny.next (j := 6) (by kernel_rfl) hok rfl (by kernel_rfl) (op_call0' (vs := [.int .u64 p1.2.2.1]) (cap := []) [] rfl rfl (bl rfl) rfl rfl en65 (c_codec_Num p1.2.2.1 r16 hr16) rfl (fun ret M' F' hR540 => ?_))
       obtain ⟨m545, rfl, rfl, rfl⟩ := hR540
       refine nxp hok (kp_imp (kp_c0 rfl)) rfl (by kernel_rfl) ?_
       clear hok
       intro hok
       refine TrAny.next (j := 9) (by kernel_rfl) hok rfl (by kernel_rfl) (op_call0' (vs := [.int .u64 p1.2.2.2.1]) (cap := []) [] rfl rfl (bl rfl) rfl rfl en65 (c_codec_Num p1.2.2.2.1 r17 hr17) rfl (fun ret M' F' hR541 => ?_))
       obtain ⟨m546, rfl, rfl, rfl⟩ := hR541
       refine nxp hok (kp_imp (kp_c0 rfl)) rfl (by kernel_rfl) ?_
       clear hok
       intro hok
       refine TrAny.next (j := 13) (by kernel_rfl) hok rfl (by kernel_rfl) (op_call0' (vs := [.slice A261 1 1]) (cap := []) [1] rfl rfl (bl rfl) rfl rfl en105 (c_conf_nums ([p1.2.2.2.2.1]) A261 1 r18 hr18) rfl (fun ret M' F' hR542 => ?_))
       obtain ⟨m547, rfl, rfl, rfl⟩ := hR542
       refine nxp hok (kp_imp (kp_c0 rfl)) rfl (by kernel_rfl) ?_
       clear hok
       intro hok
       refine TrAny.next (j := 14) (by kernel_rfl) hok rfl (by kernel_rfl) (op_buildSlice' (rp := (rSl (rInt .u8))) (xs := [r15, r16, r17, r18]) (vs := [.slice m533.1 r15.length m533.2.1, .slice m545.1 r16.length m545.2.1, .slice m546.1 r17.length m546.2.1, .slice m547.1 r18.length m547.2.1]) (out := [.slice m533.1 r15.length m533.2.1, .slice m545.1 r16.length m545.2.1, .slice m546.1 r17.length m546.2.1, .slice m547.1 r18.length m547.2.1]) rfl (bl rfl) rfl sl202 ty40 ze40 rfl rfl (by decide) (by decide) rfl (fun γ w hF => (rowc ⟨_, _, rfl, hF _ (List.mem_of_getElem? (i := 3) rfl)⟩ (rowc ⟨_, _, rfl, hF _ (List.mem_of_getElem? (i := 4) rfl)⟩ (rowc ⟨_, _, rfl, hF _ (List.mem_of_getElem? (i := 5) rfl)⟩ (rowc ⟨_, _, rfl, hF _ (List.mem_of_getElem? (i := 6) rfl)⟩ rown rfl) rfl) rfl) rfl)) (fun A267 => ?_))
       refine nxp hok (kp_imp (kp_cf rfl)) rfl (by kernel_rfl) ?_
       clear hok
       intro hok
       refine TrAny.next (j := 15) (by kernel_rfl) hok rfl (by kernel_rfl) (op_call0' (vs := [.slice A267 4 4]) (cap := []) [7] rfl rfl (bl rfl) rfl rfl en64 (c_slices_Concat_byte ([r15, r16, r17, r18]) A267 4 r19 hr19) rfl (fun ret M' F' hR543 => ?_))
       obtain ⟨m548, rfl, rfl, rfl⟩ := hR543
       refine nxp hok (kp_imp (kp_c0 rfl)) rfl (by kernel_rfl) ?_
       clear hok
       intro hok
       refine TrAny.next (j := 17) (by kernel_rfl) hok rfl (by kernel_rfl) (op_store' (k := 4) (c' := [.slice m548.1 r19.length m548.2.1]) rfl rfl rfl rfl rfl ty40 rfl (Nat.le_of_ble_eq_true rfl) (ones (oc rfl on)) rfl ?_)
       refine nxs hok (kp_aw (by kernel_rfl)) rfl ?_
       clear hok
       intro hok
       refine TrAny.done (by kernel_rfl) (by kernel_rfl) hok (by kernel_rfl) (⟨(b142, m548.1, m548.2.1, m548.2.2), Imp.re _ [6, 4, 0] [0, 8] (sc rfl (sc rfl sn)) (by decide) rfl rfl rfl⟩)
     ·refine step_n rfl (by kernel_rfl) rfl (op_alloc' rfl (bl rfl) rfl ze40 (fun b143 => ?_))
      refine nxp hok (kp_imp (kp_cm rfl)) rfl (by kernel_rfl) ?_
      clear hok
      intro hok
      refine TrAny.next (j := 3) (by kernel_rfl) hok rfl (by kernel_rfl) (op_call0' (vs := [.slice A262 1 1]) (cap := []) [2] rfl rfl (bl rfl) rfl rfl en105 (c_conf_nums ([p1.1]) A262 1 r15 hr15) rfl (fun ret M' F' hR544 => ?_))
      obtain ⟨m549, rfl, rfl, rfl⟩ := hR544
      refine nxp hok (kp_imp (kp_c0 rfl)) rfl (by kernel_rfl) ?_
      clear hok
      intro hok
      refine TrAny.next (j := 6) (by kernel_rfl) hok rfl (by kernel_rfl) (op_call0' (vs := [.int .u64 p1.2.2.1]) (cap := []) [] rfl rfl (bl rfl) rfl rfl en65 (c_codec_Num p1.2.2.1 r16 hr16) rfl (fun ret M' F' hR545 => ?_))
      obtain ⟨m550, rfl, rfl, rfl⟩ := hR545
      refine nxp hok (kp_imp (kp_c0 rfl)) rfl (by kernel_rfl) ?_
      clear hok
      intro hok
      refine TrAny.next (j := 9) (by kernel_rfl) hok rfl (by kernel_rfl) (op_call0' (vs := [.int .u64 p1.2.2.2.1]) (cap := []) [] rfl rfl (bl rfl) rfl rfl en65 (c_codec_Num p1.2.2.2.1 r17 hr17) rfl (fun ret M' F' hR546 => ?_))
      obtain ⟨m551, rfl, rfl, rfl⟩ := hR546
      refine nxp hok (kp_imp (kp_c0 rfl)) rfl (by kernel_rfl) ?_
      clear hok
      intro hok
      refine TrAny.next (j := 13) (by kernel_rfl) hok rfl (by kernel_rfl) (op_call0' (vs := [.slice A261 1 1]) (cap := []) [1] rfl rfl (bl rfl) rfl rfl en105 (c_conf_nums ([p1.2.2.2.2.1]) A261 1 r18 hr18) rfl (fun ret M' F' hR547 => ?_))
      obtain ⟨m552, rfl, rfl, rfl⟩ := hR547
      refine nxp hok (kp_imp (kp_c0 rfl)) rfl (by kernel_rfl) ?_
      clear hok
      intro hok
      refine TrAny.next (j := 14) (by kernel_rfl) hok rfl (by kernel_rfl) (op_buildSlice' (rp := (rSl (rInt .u8))) (xs := [r15, r16, r17, r18]) (vs := [.slice m549.1 r15.length m549.2.1, .slice m550.1 r16.length m550.2.1, .slice m551.1 r17.length m551.2.1, .slice m552.1 r18.length m552.2.1]) (out := [.slice m549.1 r15.length m549.2.1, .slice m550.1 r16.length m550.2.1, .slice m551.1 r17.length m551.2.1, .slice m552.1 r18.length m552.2.1]) rfl (bl rfl) rfl sl202 ty40 ze40 rfl rfl (by decide) (by decide) rfl (fun γ w hF => (rowc ⟨_, _, rfl, hF _ (List.mem_of_getElem? (i := 3) rfl)⟩ (rowc ⟨_, _, rfl, hF _ (List.mem_of_getElem? (i := 4) rfl)⟩ (rowc ⟨_, _, rfl, hF _ (List.mem_of_getElem? (i := 5) rfl)⟩ (rowc ⟨_, _, rfl, hF _ (List.mem_of_getElem? (i := 6) rfl)⟩ rown rfl) rfl) rfl) rfl)) (fun A268 => ?_))
      refine nxp hok (kp_imp (kp_cf rfl)) rfl (by kernel_rfl) ?_
      clear hok
      intro hok
      refine TrAny.next (j := 15) (by kernel_rfl) hok rfl (by kernel_rfl) (op_call0' (vs := [.slice A268 4 4]) (cap := []) [7] rfl rfl (bl rfl) rfl rfl en64 (c_slices_Concat_byte ([r15, r16, r17, r18]) A268 4 r19 hr19) rfl (fun ret M' F' hR548 => ?_))
      obtain ⟨m553, rfl, rfl, rfl⟩ := hR548
      refine nxp hok (kp_imp (kp_c0 rfl)) rfl (by kernel_rfl) ?_
      clear hok
      intro hok
      refine TrAny.next (j := 17) (by kernel_rfl) hok rfl (by kernel_rfl) (op_store' (k := 5) (c' := [.slice m553.1 r19.length m553.2.1]) rfl rfl rfl rfl rfl ty40 rfl (Nat.le_of_ble_eq_true rfl) (ones (oc rfl on)) rfl ?_)
      refine nxs hok (kp_aw (by kernel_rfl)) rfl ?_
      clear hok
      intro hok
      refine TrAny.done (by kernel_rfl) (by kernel_rfl) hok (by kernel_rfl) (⟨(b143, m553.1, m553.2.1, m553.2.2), Imp.re _ [6, 5, 0] [0, 8] (sc rfl (sc rfl sn)) (by decide) rfl rfl rfl⟩)
    ·refine step_n rfl (by kernel_rfl) rfl (op_alloc' rfl (bl rfl) rfl ze40 (fun b144 => ?_))
     refine nxp hok (kp_imp (kp_cm rfl)) rfl (by kernel_rfl) ?_
     clear hok
     intro hok
     refine TrAny.next (j := 2) (by kernel_rfl) hok rfl (by kernel_rfl) (op_buildSlice' (rp := (rInt .i64)) (xs := [p1.1]) (vs := [.int .i64 p1.1]) (out := [.int .i64 p1.1]) rfl (bl rfl) rfl sl221 ty3 ze3 rfl rfl (by decide) (by decide) rfl (fun γ w hF => (rowc rfl rown rfl)) (fun A269 => ?_))
     refine nxp hok (kp_imp (kp_cf rfl)) rfl (by kernel_rfl) ?_
     clear hok
     intro hok
     refine TrAny.next (j := 3) (by kernel_rfl) hok rfl (by kernel_rfl) (op_call0' (vs := [.slice A269 1 1]) (cap := []) [2] rfl rfl (bl rfl) rfl rfl en105 (c_conf_nums ([p1.1]) A269 1 r15 hr15) rfl (fun ret M' F' hR549 => ?_))
     obtain ⟨m554, rfl, rfl, rfl⟩ := hR549
     refine nxp hok (kp_imp (kp_c0 rfl)) rfl (by kernel_rfl) ?_
     clear hok
     intro hok
     refine TrAny.next (j := 6) (by kernel_rfl) hok rfl (by kernel_rfl) (op_call0' (vs := [.int .u64 p1.2.2.1]) (cap := []) [] rfl rfl (bl rfl) rfl rfl en65 (c_codec_Num p1.2.2.1 r16 hr16) rfl (fun ret M' F' hR550 => ?_))
     obtain ⟨m555, rfl, rfl, rfl⟩ := hR550
     refine nxp hok (kp_imp (kp_c0 rfl)) rfl (by kernel_rfl) ?_
     clear hok
     intro hok
     refine TrAny.next (j := 9) (by kernel_rfl) hok rfl (by kernel_rfl) (op_call0' (vs := [.int .u64 p1.2.2.2.1]) (cap := []) [] rfl rfl (bl rfl) rfl rfl en65 (c_codec_Num p1.2.2.2.1 r17 hr17) rfl (fun ret M' F' hR551 => ?_))
     obtain ⟨m556, rfl, rfl, rfl⟩ := hR551
     refine nxp hok (kp_imp (kp_c0 rfl)) rfl (by kernel_rfl) ?_
     clear hok
     intro hok
     refine TrAny.next (j := 13) (by kernel_rfl) hok rfl (by kernel_rfl) (op_call0' (vs := [.slice A261 1 1]) (cap := []) [1] rfl rfl (bl rfl) rfl rfl en105 (c_conf_nums ([p1.2.2.2.2.1]) A261 1 r18 hr18) rfl (fun ret M' F' hR552 => ?_))
     obtain ⟨m557, rfl, rfl, rfl⟩ := hR552
     refine nxp hok (kp_imp (kp_c0 rfl)) rfl (by kernel_rfl) ?_
     clear hok
     intro hok
     refine TrAny.next (j := 14) (by kernel_rfl) hok rfl (by kernel_rfl) (op_buildSlice' (rp := (rSl (rInt .u8))) (xs := [r15, r16, r17, r18]) (vs := [.slice m554.1 r15.length m554.2.1, .slice m555.1 r16.length m555.2.1, .slice m556.1 r17.length m556.2.1, .slice m557.1 r18.length m557.2.1]) (out := [.slice m554.1 r15.length m554.2.1, .slice m555.1 r16.length m555.2.1, .slice m556.1 r17.length m556.2.1, .slice m557.1 r18.length m557.2.1]) rfl (bl rfl) rfl sl202 ty40 ze40 rfl rfl (by decide) (by decide) rfl (fun γ w hF => (rowc ⟨_, _, rfl, hF _ (List.mem_of_getElem? (i := 3) rfl)⟩ (rowc ⟨_, _, rfl, hF _ (List.mem_of_getElem? (i := 4) rfl)⟩ (rowc ⟨_, _, rfl, hF _ (List.mem_of_getElem? (i := 5) rfl)⟩ (rowc ⟨_, _, rfl, hF _ (List.mem_of_getElem? (i := 6) rfl)⟩ rown rfl) rfl) rfl) rfl)) (fun A270 => ?_))
     refine nxp hok (kp_imp (kp_cf rfl)) rfl (by kernel_rfl) ?_
     clear hok
     intro hok
     refine TrAny.next (j := 15) (by kernel_rfl) hok rfl (by kernel_rfl) (op_call0' (vs := [.slice A270 4 4]) (cap := []) [7] rfl rfl (bl rfl) rfl rfl en64 (c_slices_Concat_byte ([r15, r16, r17, r18]) A270 4 r19 hr19) rfl (fun ret M' F' hR553 => ?_))
     obtain ⟨m558, rfl, rfl, rfl⟩ := hR553
     refine nxp hok (kp_imp (kp_c0 rfl)) rfl (by kernel_rfl) ?_
     clear hok
     intro hok
     refine TrAny.next (j := 17) (by kernel_rfl) hok rfl (by kernel_rfl) (op_store' (k := 5) (c' := [.slice m558.1 r19.length m558.2.1]) rfl rfl rfl rfl rfl ty40 rfl (Nat.le_of_ble_eq_true rfl) (ones (oc rfl on)) rfl ?_)
     refine nxs hok (kp_aw (by kernel_rfl)) rfl ?_
     clear hok
     intro hok
     refine TrAny.done (by kernel_rfl) (by kernel_rfl) hok (by kernel_rfl) (⟨(b144, m558.1, m558.2.1, m558.2.2), Imp.re _ [6, 5, 0] [0, 8] (sc rfl (sc rfl sn)) (by decide) rfl rfl rfl⟩)
   ·refine step_n rfl (by kernel_rfl) rfl (op_alloc' rfl (bl rfl) rfl ze40 (fun b145 => ?_))
    refine nxp hok (kp_imp (kp_cm rfl)) rfl (by kernel_rfl) ?_
    clear hok
    intro hok
    refine TrAny.fork [2, 12] (by kernel_rfl) hok ⟨2, by decide, bl rfl⟩ (by kernel_rfl) (.cons ?_ (.cons ?_ .nil))
    ·refine step_n rfl (by kernel_rfl) rfl (op_buildSlice' (rp := (rInt .i64)) (xs := [p1.1]) (vs := [.int .i64 p1.1]) (out := [.int .i64 p1.1]) rfl (bl rfl) rfl sl221 ty3 ze3 rfl rfl (by decide) (by decide) rfl (fun γ w hF => (rowc rfl rown rfl)) (fun A271 => ?_))
     refine nxp hok (kp_imp (kp_cf rfl)) rfl (by kernel_rfl) ?_
     clear hok
     intro hok
     refine TrAny.fork [3, 12] (by kernel_rfl) hok ⟨3, by decide, bl rfl⟩ (by kernel_rfl) (.cons ?_ (.cons ?_ .nil))
     ·refine step_n rfl (by kernel_rfl) rfl (op_call0' (vs := [.slice A271 1 1]) (cap := []) [1] rfl rfl (bl rfl) rfl rfl en105 (c_conf_nums ([p1.1]) A271 1 r15 hr15) rfl (fun ret M' F' hR554 => ?_))
      obtain ⟨m559, rfl, rfl, rfl⟩ := hR554
      refine nxp hok (kp_imp (kp_c0 rfl)) rfl (by kernel_rfl) ?_
      clear hok
      intro hok
      refine TrAny.fork [6, 12] (by kernel_rfl) hok ⟨6, by decide, bl rfl⟩ (by kernel_rfl) (.cons ?_ (.cons ?_ .nil))
      ·refine step_n rfl (by kernel_rfl) rfl (op_call0' (vs := [.int .u64 p1.2.2.1]) (cap := []) [] rfl rfl (bl rfl) rfl rfl en65 (c_codec_Num p1.2.2.1 r16 hr16) rfl (fun ret M' F' hR555 => ?_))
       obtain ⟨m560, rfl, rfl, rfl⟩ := hR555
       refine nxp hok (kp_imp (kp_c0 rfl)) rfl (by kernel_rfl) ?_
       clear hok
       intro hok
       refine TrAny.fork [9, 12] (by kernel_rfl) hok ⟨9, by decide, bl rfl⟩ (by kernel_rfl) (.cons ?_ (.cons ?_ .nil))
       ·refine step_n rfl (by kernel_rfl) rfl (op_call0' (vs := [.int .u64 p1.2.2.2.1]) (cap := []) [] rfl rfl (bl rfl) rfl rfl en65 (c_codec_Num p1.2.2.2.1 r17 hr17) rfl (fun ret M' F' hR556 => ?_))
        obtain ⟨m561, rfl, rfl, rfl⟩ := hR556
        refine nxp hok (kp_imp (kp_c0 rfl)) rfl (by kernel_rfl) ?_
        clear hok
        intro hok
        refine TrAny.next (j := 12) (by kernel_rfl) hok rfl (by kernel_rfl) (op_buildSlice' (rp := (rInt .i64)) (xs := [p1.2.2.2.2.1]) (vs := [.int .i64 p1.2.2.2.2.1]) (out := [.int .i64 p1.2.2.2.2.1]) rfl (bl rfl) rfl sl221 ty3 ze3 rfl rfl (by decide) (by decide) rfl (fun γ w hF => (rowc rfl rown rfl)) (fun A272 => ?_))
        refine nxp hok (kp_imp (kp_cf rfl)) rfl (by kernel_rfl) ?_
        clear hok
        intro hok
        refine TrAny.next (j := 13) (by kernel_rfl) hok rfl (by kernel_rfl) (op_call0' (vs := [.slice A272 1 1]) (cap := []) [5] rfl rfl (bl rfl) rfl rfl en105 (c_conf_nums ([p1.2.2.2.2.1]) A272 1 r18 hr18) rfl (fun ret M' F' hR557 => ?_))
        obtain ⟨m562, rfl, rfl, rfl⟩ := hR557
        refine nxp hok (kp_imp (kp_c0 rfl)) rfl (by kernel_rfl) ?_
        clear hok
        intro hok
        refine TrAny.next (j := 14) (by kernel_rfl) hok rfl (by kernel_rfl) (op_buildSlice' (rp := (rSl (rInt .u8))) (xs := [r15, r16, r17, r18]) (vs := [.slice m559.1 r15.length m559.2.1, .slice m560.1 r16.length m560.2.1, .slice m561.1 r17.length m561.2.1, .slice m562.1 r18.length m562.2.1]) (out := [.slice m559.1 r15.length m559.2.1, .slice m560.1 r16.length m560.2.1, .slice m561.1 r17.length m561.2.1, .slice m562.1 r18.length m562.2.1]) rfl (bl rfl) rfl sl202 ty40 ze40 rfl rfl (by decide) (by decide) rfl (fun γ w hF => (rowc ⟨_, _, rfl, hF _ (List.mem_of_getElem? (i := 2) rfl)⟩ (rowc ⟨_, _, rfl, hF _ (List.mem_of_getElem? (i := 3) rfl)⟩ (rowc ⟨_, _, rfl, hF _ (List.mem_of_getElem? (i := 4) rfl)⟩ (rowc ⟨_, _, rfl, hF _ (List.mem_of_getElem? (i := 6) rfl)⟩ rown rfl) rfl) rfl) rfl)) (fun A273 => ?_))
        refine nxp hok (kp_imp (kp_cf rfl)) rfl (by kernel_rfl) ?_
        clear hok
        intro hok
        refine TrAny.next (j := 15) (by kernel_rfl) hok rfl (by kernel_rfl) (op_call0' (vs := [.slice A273 4 4]) (cap := []) [7] rfl rfl (bl rfl) rfl rfl en64 (c_slices_Concat_byte ([r15, r16, r17, r18]) A273 4 r19 hr19) rfl (fun ret M' F' hR558 => ?_))
        obtain ⟨m563, rfl, rfl, rfl⟩ := hR558
        refine nxp hok (kp_imp (kp_c0 rfl)) rfl (by kernel_rfl) ?_
        clear hok
        intro hok
        refine TrAny.next (j := 17) (by kernel_rfl) hok rfl (by kernel_rfl) (op_store' (k := 5) (c' := [.slice m563.1 r19.length m563.2.1]) rfl rfl rfl rfl rfl ty40 rfl (Nat.le_of_ble_eq_true rfl) (ones (oc rfl on)) rfl ?_)
        refine nxs hok (kp_aw (by kernel_rfl)) rfl ?_
        clear hok
        intro hok
        refine TrAny.done (by kernel_rfl) (by kernel_rfl) hok (by kernel_rfl) (⟨(b145, m563.1, m563.2.1, m563.2.2), Imp.re _ [6, 5, 0] [0, 8] (sc rfl (sc rfl sn)) (by decide) rfl rfl rfl⟩)
       ·refine step_n rfl (by kernel_rfl) rfl (op_buildSlice' (rp := (rInt .i64)) (xs := [p1.2.2.2.2.1]) (vs := [.int .i64 p1.2.2.2.2.1]) (out := [.int .i64 p1.2.2.2.2.1]) rfl (bl rfl) rfl sl221 ty3 ze3 rfl rfl (by decide) (by decide) rfl (fun γ w hF => (rowc rfl rown rfl)) (fun A274 => ?_))
        refine nxp hok (kp_imp (kp_cf rfl)) rfl (by kernel_rfl) ?_
        clear hok
        intro hok
        refine TrAny.next (j := 9) (by kernel_rfl) hok rfl (by kernel_rfl) (op_call0' (vs := [.int .u64 p1.2.2.2.1]) (cap := []) [] rfl rfl (bl rfl) rfl rfl en65 (c_codec_Num p1.2.2.2.1 r17 hr17) rfl (fun ret M' F' hR559 => ?_))
        obtain ⟨m564, rfl, rfl, rfl⟩ := hR559
        refine nxp hok (kp_imp (kp_c0 rfl)) rfl (by kernel_rfl) ?_
        clear hok
        intro hok
        refine TrAny.next (j := 13) (by kernel_rfl) hok rfl (by kernel_rfl) (op_call0' (vs := [.slice A274 1 1]) (cap := []) [4] rfl rfl (bl rfl) rfl rfl en105 (c_conf_nums ([p1.2.2.2.2.1]) A274 1 r18 hr18) rfl (fun ret M' F' hR560 => ?_))
        obtain ⟨m565, rfl, rfl, rfl⟩ := hR560
        refine nxp hok (kp_imp (kp_c0 rfl)) rfl (by kernel_rfl) ?_
        clear hok
        intro hok
        refine TrAny.next (j := 14) (by kernel_rfl) hok rfl (by kernel_rfl) (op_buildSlice' (rp := (rSl (rInt .u8))) (xs := [r15, r16, r17, r18]) (vs := [.slice m559.1 r15.length m559.2.1, .slice m560.1 r16.length m560.2.1, .slice m564.1 r17.length m564.2.1, .slice m565.1 r18.length m565.2.1]) (out := [.slice m559.1 r15.length m559.2.1, .slice m560.1 r16.length m560.2.1, .slice m564.1 r17.length m564.2.1, .slice m565.1 r18.length m565.2.1]) rfl (bl rfl) rfl sl202 ty40 ze40 rfl rfl (by decide) (by decide) rfl (fun γ w hF => (rowc ⟨_, _, rfl, hF _ (List.mem_of_getElem? (i := 2) rfl)⟩ (rowc ⟨_, _, rfl, hF _ (List.mem_of_getElem? (i := 3) rfl)⟩ (rowc ⟨_, _, rfl, hF _ (List.mem_of_getElem? (i := 5) rfl)⟩ (rowc ⟨_, _, rfl, hF _ (List.mem_of_getElem? (i := 6) rfl)⟩ rown rfl) rfl) rfl) rfl)) (fun A275 => ?_))
        refine nxp hok (kp_imp (kp_cf rfl)) rfl (by kernel_rfl) ?_
        clear hok
        intro hok
        refine TrAny.next (j := 15) (by kernel_rfl) hok rfl (by kernel_rfl) (op_call0' (vs := [.slice A275 4 4]) (cap := []) [7] rfl rfl (bl rfl) rfl rfl en64 (c_slices_Concat_byte ([r15, r16, r17, r18]) A275 4 r19 hr19) rfl (fun ret M' F' hR561 => ?_))
        obtain ⟨m566, rfl, rfl, rfl⟩ := hR561
        refine nxp hok (kp_imp (kp_c0 rfl)) rfl (by kernel_rfl) ?_
        clear hok
        intro hok
        refine TrAny.next (j := 17) (by kernel_rfl) hok rfl (by kernel_rfl) (op_store' (k := 5) (c' := [.slice m566.1 r19.length m566.2.1]) rfl rfl rfl rfl rfl ty40 rfl (Nat.le_of_ble_eq_true rfl) (ones (oc rfl on)) rfl ?_)
        refine nxs hok (kp_aw (by kernel_rfl)) rfl ?_
        clear hok
        intro hok
        refine TrAny.done (by kernel_rfl) (by kernel_rfl) hok (by kernel_rfl) (⟨(b145, m566.1, m566.2.1, m566.2.2), Imp.re _ [6, 5, 0] [0, 8] (sc rfl (sc rfl sn)) (by decide) rfl rfl rfl⟩)
      ·refine step_n rfl (by kernel_rfl) rfl (op_buildSlice' (rp := (rInt .i64)) (xs := [p1.2.2.2.2.1]) (vs := [.int .i64 p1.2.2.2.2.1]) (out := [.int .i64 p1.2.2.2.2.1]) rfl (bl rfl) rfl sl221 ty3 ze3 rfl rfl (by decide) (by decide) rfl (fun γ w hF => (rowc rfl rown rfl)) (fun A276 => ?_))
       refine nxp hok (kp_imp (kp_cf rfl)) rfl (by kernel_rfl) ?_
       clear hok
       intro hok
       refine TrAny.next (j := 6) (by kernel_rfl) hok rfl (by kernel_rfl) (op_call0' (vs := [.int .u64 p1.2.2.1]) (cap := []) [] rfl rfl (bl rfl) rfl rfl en65 (c_codec_Num p1.2.2.1 r16 hr16) rfl (fun ret M' F' hR562 => ?_))
       obtain ⟨m567, rfl, rfl, rfl⟩ := hR562
       refine nxp hok (kp_imp (kp_c0 rfl)) rfl (by kernel_rfl) ?_
       clear hok
       intro hok
       refine TrAny.next (j := 9) (by kernel_rfl) hok rfl (by kernel_rfl) (op_call0' (vs := [.int .u64 p1.2.2.2.1]) (cap := []) [] rfl rfl (bl rfl) rfl rfl en65 (c_codec_Num p1.2.2.2.1 r17 hr17) rfl (fun ret M' F' hR563 => ?_))
       obtain ⟨m568, rfl, rfl, rfl⟩ := hR563
       refine nxp hok (kp_imp (kp_c0 rfl)) rfl (by kernel_rfl) ?_
       clear hok
       intro hok
       refine TrAny.next (j := 13) (by kernel_rfl) hok rfl (by kernel_rfl) (op_call0' (vs := [.slice A276 1 1]) (cap := []) [3] rfl rfl (bl rfl) rfl rfl en105 (c_conf_nums ([p1.2.2.2.2.1]) A276 1 r18 hr18) rfl (fun ret M' F' hR564 => ?_))
       obtain ⟨m569, rfl, rfl, rfl⟩ := hR564
       refine nxp hok (kp_imp (kp_c0 rfl)) rfl (by kernel_rfl) ?_
       clear hok
       intro hok
       refine TrAny.next (j := 14) (by kernel_rfl) hok rfl (by kernel_rfl) (op_buildSlice' (rp := (rSl (rInt .u8))) (xs := [r15, r16, r17, r18]) (vs := [.slice m559.1 r15.length m559.2.1, .slice m567.1 r16.length m567.2.1, .slice m568.1 r17.length m568.2.1, .slice m569.1 r18.length m569.2.1]) (out := [.slice m559.1 r15.length m559.2.1, .slice m567.1 r16.length m567.2.1, .slice m568.1 r17.length m568.2.1, .slice m569.1 r18.length m569.2.1]) rfl (bl rfl) rfl sl202 ty40 ze40 rfl rfl (by decide) (by decide) rfl (fun γ w hF => (rowc ⟨_, _, rfl, hF _ (List.mem_of_getElem? (i := 2) rfl)⟩ (rowc ⟨_, _, rfl, hF _ (List.mem_of_getElem? (i := 4) rfl)⟩ (rowc ⟨_, _, rfl, hF _ (List.mem_of_getElem? (i := 5) rfl)⟩ (rowc ⟨_, _, rfl, hF _ (List.mem_of_getElem? (i := 6) rfl)⟩ rown rfl) rfl) rfl) rfl)) (fun A277 => ?_))
       refine nxp hok (kp_imp (kp_cf rfl)) rfl (by kernel_rfl) ?_
       clear hok
       intro hok
       refine TrAny.next (j := 15) (by kernel_rfl) hok rfl (by kernel_rfl) (op_call0' (vs := [.slice A277 4 4]) (cap := []) [7] rfl rfl (bl rfl) rfl rfl en64 (c_slices_Concat_byte ([r15, r16, r17, r18]) A277 4 r19 hr19) rfl (fun ret M' F' hR565 => ?_))
       obtain ⟨m570, rfl, rfl, rfl⟩ := hR565
       refine nxp hok (kp_imp (kp_c0 rfl)) rfl (by kernel_rfl) ?_
       clear hok
       intro hok
       refine TrAny.next (j := 17) (by kernel_rfl) hok rfl (by kernel_rfl) (op_store' (k := 5) (c' := [.slice m570.1 r19.length m570.2.1]) rfl rfl rfl rfl rfl ty40 rfl (Nat.le_of_ble_eq_true rfl) (ones (oc rfl on)) rfl ?_)
       refine nxs hok (kp_aw (by kernel_rfl)) rfl ?_
       clear hok
       intro hok
       refine TrAny.done (by kernel_rfl) (by kernel_rfl) hok (by kernel_rfl) (⟨(b145, m570.1, m570.2.1, m570.2.2), Imp.re _ [6, 5, 0] [0, 8] (sc rfl (sc rfl sn)) (by decide) rfl rfl rfl⟩)
     ·refine step_n rfl (by kernel_rfl) rfl (op_buildSlice' (rp := (rInt .i64)) (xs := [p1.2.2.2.2.1]) (vs := [.int .i64 p1.2.2.2.2.1]) (out := [.int .i64 p1.2.2.2.2.1]) rfl (bl rfl) rfl sl221 ty3 ze3 rfl rfl (by decide) (by decide) rfl (fun γ w hF => (rowc rfl rown rfl)) (fun A278 => ?_))
      refine nxp hok (kp_imp (kp_cf rfl)) rfl (by kernel_rfl) ?_
      clear hok
      intro hok
      refine TrAny.next (j := 3) (by kernel_rfl) hok rfl (by kernel_rfl) (op_call0' (vs := [.slice A271 1 1]) (cap := []) [1] rfl rfl (bl rfl) rfl rfl en105 (c_conf_nums ([p1.1]) A271 1 r15 hr15) rfl (fun ret M' F' hR566 => ?_))
      obtain ⟨m571, rfl, rfl, rfl⟩ := hR566
      refine nxp hok (kp_imp (kp_c0 rfl)) rfl (by kernel_rfl) ?_
      clear hok
      intro hok
      refine TrAny.next (j := 6) (by kernel_rfl) hok rfl (by kernel_rfl) (op_call0' (vs := [.int .u64 p1.2.2.1]) (cap := []) [] rfl rfl (bl rfl) rfl rfl en65 (c_codec_Num p1.2.2.1 r16 hr16) rfl (fun ret M' F' hR567 => ?_))
      obtain ⟨m572, rfl, rfl, rfl⟩ := hR567
      refine nxp hok (kp_imp (kp_c0 rfl)) rfl (by kernel_rfl) ?_
      clear hok
      intro hok
      refine TrAny.next (j := 9) (by kernel_rfl) hok rfl (by kernel_rfl) (op_call0' (vs := [.int .u64 p1.2.2.2.1]) (cap := []) [] rfl rfl (bl rfl) rfl rfl en65 (c_codec_Num p1.2.2.2.1 r17 hr17) rfl (fun ret M' F' hR568 => ?_))
      obtain ⟨m573, rfl, rfl, rfl⟩ := hR568
      refine nxp hok (kp_imp (kp_c0 rfl)) rfl (by kernel_rfl) ?_
      clear hok
      intro hok
      refine TrAny.next (j := 13) (by kernel_rfl) hok rfl (by kernel_rfl) (op_call0' (vs := [.slice A278 1 1]) (cap := []) [2] rfl rfl (bl rfl) rfl rfl en105 (c_conf_nums ([p1.2.2.2.2.1]) A278 1 r18 hr18) rfl (fun ret M' F' hR569 => ?_))
      obtain ⟨m574, rfl, rfl, rfl⟩ := hR569
      refine nxp hok (kp_imp (kp_c0 rfl)) rfl (by kernel_rfl) ?_
      clear hok
      intro hok
      refine TrAny.next (j := 14) (by kernel_rfl) hok rfl (by kernel_rfl) (op_buildSlice' (rp := (rSl (rInt .u8))) (xs := [r15, r16, r17, r18]) (vs := [.slice m571.1 r15.length m571.2.1, .slice m572.1 r16.length m572.2.1, .slice m573.1 r17.length m573.2.1, .slice m574.1 r18.length m574.2.1]) (out := [.slice m571.1 r15.length m571.2.1, .slice m572.1 r16.length m572.2.1, .slice m573.1 r17.length m573.2.1, .slice m574.1 r18.length m574.2.1]) rfl (bl rfl) rfl sl202 ty40 ze40 rfl rfl (by decide) (by decide) rfl (fun γ w hF => (rowc ⟨_, _, rfl, hF _ (List.mem_of_getElem? (i := 3) rfl)⟩ (rowc ⟨_, _, rfl, hF _ (List.mem_of_getElem? (i := 4) rfl)⟩ (rowc ⟨_, _, rfl, hF _ (List.mem_of_getElem? (i := 5) rfl)⟩ (rowc ⟨_, _, rfl, hF _ (List.mem_of_getElem? (i := 6) rfl)⟩ rown rfl) rfl) rfl) rfl)) (fun A279 => ?_))
      refine nxp hok (kp_imp (kp_cf rfl)) rfl (by kernel_rfl) ?_
      clear hok
      intro hok
      refine TrAny.next (j := 15) (by kernel_rfl) hok rfl (by kernel_rfl) (op_call0' (vs := [.slice A279 4 4]) (cap := []) [7] rfl rfl (bl rfl) rfl rfl en64 (c_slices_Concat_byte ([r15, r16, r17, r18]) A279 4 r19 hr19) rfl (fun ret M' F' hR570 => ?_))
      obtain ⟨m575, rfl, rfl, rfl⟩ := hR570
      refine nxp hok (kp_imp (kp_c0 rfl)) rfl (by kernel_rfl) ?_
      clear hok
      intro hok
      refine TrAny.next (j := 17) (by kernel_rfl) hok rfl (by kernel_rfl) (op_store' (k := 5) (c' := [.slice m575.1 r19.length m575.2.1]) rfl rfl rfl rfl rfl ty40 rfl (Nat.le_of_ble_eq_true rfl) (ones (oc rfl on)) rfl ?_)
      refine nxs hok (kp_aw (by kernel_rfl)) rfl ?_
      clear hok
      intro hok
      refine TrAny.done (by kernel_rfl) (by kernel_rfl) hok (by kernel_rfl) (⟨(b145, m575.1, m575.2.1, m575.2.2), Imp.re _ [6, 5, 0] [0, 8] (sc rfl (sc rfl sn)) (by decide) rfl rfl rfl⟩)
    ·refine step_n rfl (by kernel_rfl) rfl (op_buildSlice' (rp := (rInt .i64)) (xs := [p1.2.2.2.2.1]) (vs := [.int .i64 p1.2.2.2.2.1]) (out := [.int .i64 p1.2.2.2.2.1]) rfl (bl rfl) rfl sl221 ty3 ze3 rfl rfl (by decide) (by decide) rfl (fun γ w hF => (rowc rfl rown rfl)) (fun A280 => ?_))
     refine nxp hok (kp_imp (kp_cf rfl)) rfl (by kernel_rfl) ?_
     clear hok
     intro hok
     refine TrAny.next (j := 2) (by kernel_rfl) hok rfl (by kernel_rfl) (op_buildSlice' (rp := (rInt .i64)) (xs := [p1.1]) (vs := [.int .i64 p1.1]) (out := [.int .i64 p1.1]) rfl (bl rfl) rfl sl221 ty3 ze3 rfl rfl (by decide) (by decide) rfl (fun γ w hF => (rowc rfl rown rfl)) (fun A281 => ?_))
     refine nxp hok (kp_imp (kp_cf rfl)) rfl (by kernel_rfl) ?_
     clear hok
     intro hok
     refine TrAny.next (j := 3) (by kernel_rfl) hok rfl (by kernel_rfl) (op_call0' (vs := [.slice A281 1 1]) (cap := []) [2] rfl rfl (bl rfl) rfl rfl en105 (c_conf_nums ([p1.1]) A281 1 r15 hr15) rfl (fun ret M' F' hR571 => ?_))
     obtain ⟨m576, rfl, rfl, rfl⟩ := hR571
     refine nxp hok (kp_imp (kp_c0 rfl)) rfl (by kernel_rfl) ?_
     clear hok
     intro hok
     refine TrAny.next (j := 6) (by kernel_rfl) hok rfl (by kernel_rfl) (op_call0' (vs := [.int .u64 p1.2.2.1]) (cap := []) [] rfl rfl (bl rfl) rfl rfl en65 (c_codec_Num p1.2.2.1 r16 hr16) rfl (fun ret M' F' hR572 => ?_))
     obtain ⟨m577, rfl, rfl, rfl⟩ := hR572
     refine nxp hok (kp_imp (kp_c0 rfl)) rfl (by kernel_rfl) ?_
     clear hok
     intro hok
     refine TrAny.next (j := 9) (by kernel_rfl) hok rfl (by kernel_rfl) (op_call0' (vs := [.int .u64 p1.2.2.2.1]) (cap := []) [] rfl rfl (bl rfl) rfl rfl en65 (c_codec_Num p1.2.2.2.1 r17 hr17) rfl (fun ret M' F' hR573 => ?_))
     obtain ⟨m578, rfl, rfl, rfl⟩ := hR573
     refine nxp hok (kp_imp (kp_c0 rfl)) rfl (by kernel_rfl) ?_
     clear hok
     intro hok
     refine TrAny.next (j := 13) (by kernel_rfl) hok rfl (by kernel_rfl) (op_call0' (vs := [.slice A280 1 1]) (cap := []) [1] rfl rfl (bl rfl) rfl rfl en105 (c_conf_nums ([p1.2.2.2.2.1]) A280 1 r18 hr18) rfl (fun ret M' F' hR574 => ?_))
     obtain ⟨m579, rfl, rfl, rfl⟩ := hR574
     refine nxp hok (kp_imp (kp_c0 rfl)) rfl (by kernel_rfl) ?_
     clear hok
     intro hok
     refine TrAny.next (j := 14) (by kernel_rfl) hok rfl (by kernel_rfl) (op_buildSlice' (rp := (rSl (rInt .u8))) (xs := [r15, r16, r17, r18]) (vs := [.slice m576.1 r15.length m576.2.1, .slice m577.1 r16.length m577.2.1, .slice m578.1 r17.length m578.2.1, .slice m579.1 r18.length m579.2.1]) (out := [.slice m576.1 r15.length m576.2.1, .slice m577.1 r16.length m577.2.1, .slice m578.1 r17.length m578.2.1, .slice m579.1 r18.length m579.2.1]) rfl (bl rfl) rfl sl202 ty40 ze40 rfl rfl (by decide) (by decide) rfl (fun γ w hF => (rowc ⟨_, _, rfl, hF _ (List.mem_of_getElem? (i := 3) rfl)⟩ (rowc ⟨_, _, rfl, hF _ (List.mem_of_getElem? (i := 4) rfl)⟩ (rowc ⟨_, _, rfl, hF _ (List.mem_of_getElem? (i := 5) rfl)⟩ (rowc ⟨_, _, rfl, hF _ (List.mem_of_getElem? (i := 6) rfl)⟩ rown rfl) rfl) rfl) rfl)) (fun A282 => ?_))
     refine nxp hok (kp_imp (kp_cf rfl)) rfl (by kernel_rfl) ?_
     clear hok
     intro hok
     refine TrAny.next (j := 15) (by kernel_rfl) hok rfl (by kernel_rfl) (op_call0' (vs := [.slice A282 4 4]) (cap := []) [7] rfl rfl (bl rfl) rfl rfl en64 (c_slices_Concat_byte ([r15, r16, r17, r18]) A282 4 r19 hr19) rfl (fun ret M' F' hR575 => ?_))
     obtain ⟨m580, rfl, rfl, rfl⟩ := hR575
     refine nxp hok (kp_imp (kp_c0 rfl)) rfl (by kernel_rfl) ?_
     clear hok
     intro hok
     refine TrAny.next (j := 17) (by kernel_rfl) hok rfl (by kernel_rfl) (op_store' (k := 5) (c' := [.slice m580.1 r19.length m580.2.1]) rfl rfl rfl rfl rfl ty40 rfl (Nat.le_of_ble_eq_true rfl) (ones (oc rfl on)) rfl ?_)
     refine nxs hok (kp_aw (by kernel_rfl)) rfl ?_
     clear hok
     intro hok
     refine TrAny.done (by kernel_rfl) (by kernel_rfl) hok (by kernel_rfl) (⟨(b145, m580.1, m580.2.1, m580.2.2), Imp.re _ [6, 5, 0] [0, 8] (sc rfl (sc rfl sn)) (by decide) rfl rfl rfl⟩)
  ·refine (qthen_n ?_)
   refine Tr.seq ?_
   refine Tr.seq ?_
   refine Tr.region ?_
   refine TrL.v (v_fieldAddr' rfl fo91_0 rfl rfl) rfl rfl (bl rfl) ?_
   refine TrL.v (v_load (k := 0) rfl rfl rfl ty3 (fun _ => rfl) rfl rfl) rfl rfl (bl rfl) ?_
   refine TrL.nil (qthen_n ?_)
   refine Tr.block ?_
   refine Tr.seq ?_
   refine Tr.region ?_
   refine TrL.v (v_arith rfl rfl rfl ar_eql) rfl rfl (bl rfl) ?_
   refine TrL.v (v_assign rfl rfl) rfl rfl (bl rfl) ?_
   refine TrL.nil (qthen_n ?_)
   rcases ifc H with ⟨h14, H⟩ | ⟨h14, H⟩
   ·refine Tr.cond_t rfl (bt_dec h14) ?_
    refine Tr.regionD drawn (fun hok => ?_)
    refine TrAny.prom (i := 0) (d := 36) hok (OpVal.plain rfl rfl (v_load (k := 1) rfl rfl rfl ty40 (fun _ => rfl) rfl rfl)) (by kernel_rfl) rfl (bl rfl) ?_
    clear hok
    intro hok
    refine TrAny.prom (i := 1) (d := 37) hok (OpVal.plain rfl rfl (v_fieldAddr' rfl fo91_1 rfl rfl)) (by kernel_rfl) rfl (bl rfl) ?_
    clear hok
    intro hok
    refine TrAny.prom (i := 2) (d := 38) hok (OpVal.plain rfl rfl (v_load (k := 0) rfl rfl rfl ty3 (fun _ => rfl) rfl rfl)) (by kernel_rfl) rfl (bl rfl) ?_
    clear hok
    intro hok
    refine TrAny.next (j := 3) (by kernel_rfl) hok rfl (by kernel_rfl) (op_buildSlice' (rp := (rInt .i64)) (xs := [p1.2.1]) (vs := [.int .i64 p1.2.1]) (out := [.int .i64 p1.2.1]) rfl (bl rfl) rfl sl221 ty3 ze3 rfl rfl (by decide) (by decide) rfl (fun γ w hF => (rowc rfl rown rfl)) (fun A285 => ?_))
    refine nxp hok (kp_imp (kp_cf rfl)) rfl (by kernel_rfl) ?_
    clear hok
    intro hok
    obtain ⟨r21, hr21, H⟩ := bnd H
    refine TrAny.next (j := 4) (by kernel_rfl) hok rfl (by kernel_rfl) (op_call0' (vs := [.slice A285 1 1]) (cap := []) [2] rfl rfl (bl rfl) rfl rfl en105 (c_conf_nums ([p1.2.1]) A285 1 r21 hr21) rfl (fun ret M' F' hR577 => ?_))
    obtain ⟨m582, rfl, rfl, rfl⟩ := hR577
    refine nxp hok (kp_imp (kp_c0 rfl)) rfl (by kernel_rfl) ?_
    clear hok
    intro hok
    obtain ⟨h16, H⟩ := rom H
    refine TrAny.next (j := 5) (by kernel_rfl) hok rfl (by kernel_rfl) (op_append' (rp := (rInt .u8)) (xs := r19) (ys := r21) (k := 3) (kx := 1) (ky := 3) rfl (bl rfl) rfl sl40 ty5 ze5 rfl by5 rfl rfl rfl rfl rfl rfl rfl h16.1 h16.2 (fun A286 c12 o11 => ?_))
    refine nxp hok (kp_all (ac (.inl (by kernel_rfl)) (ac (.inr (OpVal.plain rfl rfl (v_fieldAddr' rfl fo91_1 rfl rfl))) (ac (.inr (OpVal.plain rfl rfl (v_load (k := 1) rfl rfl rfl ty3 (fun _ => rfl) rfl rfl))) an)))) rfl (by kernel_rfl) ?_
    clear hok
    intro hok
    refine TrAny.next (j := 6) (by kernel_rfl) hok rfl (by kernel_rfl) (op_store' (k := 2) (c' := [.slice A286 ((r19 ++ r21).length) c12]) rfl rfl rfl rfl rfl ty40 rfl (Nat.le_of_ble_eq_true rfl) (ones (oc rfl on)) rfl ?_)
    refine nxs hok (kp_aw (by kernel_rfl)) rfl ?_
    clear hok
    intro hok
    refine TrAny.done (by kernel_rfl) (by kernel_rfl) hok (by kernel_rfl) (qblock_n (qthen_n ?_))
    refine Tr.seq ?_
    refine Tr.region ?_
    refine TrL.v (v_load (k := 2) rfl rfl rfl ty40 (fun _ => rfl) rfl rfl) rfl rfl (bl rfl) ?_
    refine TrL.v (v_assign rfl rfl) rfl rfl (bl rfl) ?_
    refine TrL.nil (qthen_n ?_)
    have hz := Option.some.inj H
    subst hz
    refine Tr.ret (ret_r ⟨[(2, .slice A286 ((r19 ++ r21).length) c12)], [], [slF (rInt .u8) A286 c12 (r19 ++ r21)], []⟩ [.slice A286 ((r19 ++ r21).length) c12] [] [] (Imp.re _ [] [4] (sc rfl sn) (by decide) rfl rfl rfl) rfl rfl ⟨((A286, c12)), rfl, rfl, rfl⟩ (.cons (resv_tmp rfl) .nil))
   ·refine Tr.cond_f rfl (bf_dec h14) ?_
    refine Tr.seq ?_
    refine Tr.region ?_
    refine TrL.v (v_arith rfl rfl rfl ar_eql) rfl rfl (bl rfl) ?_
    refine TrL.v (v_assign rfl rfl) rfl rfl (bl rfl) ?_
    refine TrL.nil (qthen_n ?_)
    rcases ifc H with ⟨h17, H⟩ | ⟨h17, H⟩
    ·refine Tr.cond_t rfl (bt_dec h17) ?_
     refine Tr.seq ?_
     refine Tr.regionD drawn (fun hok => ?_)
     refine TrAny.prom (i := 0) (d := 44) hok (OpVal.plain rfl rfl (v_load (k := 1) rfl rfl rfl ty40 (fun _ => rfl) rfl rfl)) (by kernel_rfl) rfl (bl rfl) ?_
     clear hok
     intro hok
     refine TrAny.prom (i := 1) (d := 45) hok (OpVal.plain rfl rfl (v_fieldAddr' rfl fo91_1 rfl rfl)) (by kernel_rfl) rfl (bl rfl) ?_
     clear hok
     intro hok
     refine TrAny.prom (i := 2) (d := 46) hok (OpVal.plain rfl rfl (v_load (k := 0) rfl rfl rfl ty3 (fun _ => rfl) rfl rfl)) (by kernel_rfl) rfl (bl rfl) ?_
     clear hok
     intro hok
     refine TrAny.prom (i := 3) (d := 47) hok (OpVal.plain rfl rfl (v_fieldAddr' rfl fo91_5 rfl rfl)) (by kernel_rfl) rfl (bl rfl) ?_
     clear hok
     intro hok
     refine TrAny.prom (i := 4) (d := 48) hok (OpVal.plain rfl rfl (v_load (k := 0) rfl rfl rfl ty3 (fun _ => rfl) rfl rfl)) (by kernel_rfl) rfl (bl rfl) ?_
     clear hok
     intro hok
     refine TrAny.prom (i := 5) (d := 49) hok (OpVal.plain rfl rfl (v_fieldAddr' rfl fo91_6 rfl rfl)) (by kernel_rfl) rfl (bl rfl) ?_
     clear hok
     intro hok
     refine TrAny.prom (i := 6) (d := 50) hok (OpVal.plain rfl rfl (v_load (k := 0) rfl rfl rfl ty89 (fun _ => rfl) rfl rfl)) (by kernel_rfl) rfl (bl rfl) ?_
     clear hok
     intro hok
     refine TrAny.prom (i := 7) (d := 51) hok (OpVal.plain rfl rfl (v_len rfl sl89 rfl)) (by kernel_rfl) rfl (bl rfl) ?_
     clear hok
     intro hok
     refine TrAny.next (j := 8) (by kernel_rfl) hok rfl (by kernel_rfl) (op_buildSlice' (rp := (rInt .i64)) (xs := [p1.2.1, p1.2.2.2.2.2.1, (p1.2.2.2.2.2.2.1.length : Int)]) (vs := [.int .i64 p1.2.1, .int .i64 p1.2.2.2.2.2.1, .int .i64 ((p1.2.2.2.2.2.2.1.length : Int))]) (out := [.int .i64 p1.2.1, .int .i64 p1.2.2.2.2.2.1, .int .i64 ((p1.2.2.2.2.2.2.1.length : Int))]) rfl (bl rfl) rfl sl221 ty3 ze3 rfl rfl (by decide) (by decide) rfl (fun γ w hF => (rowc rfl (rowc rfl (rowc rfl rown rfl) rfl) rfl)) (fun A289 => ?_))
     refine nxp hok (kp_imp (kp_cf rfl)) rfl (by kernel_rfl) ?_
     clear hok
     intro hok
     obtain ⟨r23, hr23, H⟩ := bnd H
     refine TrAny.next (j := 9) (by kernel_rfl) hok rfl (by kernel_rfl) (op_call0' (vs := [.slice A289 3 3]) (cap := []) [2] rfl rfl (bl rfl) rfl rfl en105 (c_conf_nums ([p1.2.1, p1.2.2.2.2.2.1, (p1.2.2.2.2.2.2.1.length : Int)]) A289 3 r23 hr23) rfl (fun ret M' F' hR579 => ?_))
     obtain ⟨m584, rfl, rfl, rfl⟩ := hR579
     refine nxp hok (kp_imp (kp_c0 rfl)) rfl (by kernel_rfl) ?_
     clear hok
     intro hok
     obtain ⟨h19, H⟩ := rom H
     refine TrAny.next (j := 10) (by kernel_rfl) hok rfl (by kernel_rfl) (op_append' (rp := (rInt .u8)) (xs := r19) (ys := r23) (k := 3) (kx := 1) (ky := 3) rfl (bl rfl) rfl sl40 ty5 ze5 rfl by5 rfl rfl rfl rfl rfl rfl rfl h19.1 h19.2 (fun A290 c14 o13 => ?_))
     refine nxp hok (kp_all (ac (.inl (by kernel_rfl)) (ac (.inr (OpVal.plain rfl rfl (v_fieldAddr' rfl fo91_1 rfl rfl))) (ac (.inr (OpVal.plain rfl rfl (v_load (k := 1) rfl rfl rfl ty3 (fun _ => rfl) rfl rfl))) (ac (.inr (OpVal.plain rfl rfl (v_fieldAddr' rfl fo91_5 rfl rfl))) (ac (.inr (OpVal.plain rfl rfl (v_load (k := 1) rfl rfl rfl ty3 (fun _ => rfl) rfl rfl))) (ac (.inr (OpVal.plain rfl rfl (v_fieldAddr' rfl fo91_6 rfl rfl))) (ac (.inr (OpVal.plain rfl rfl (v_load (k := 1) rfl rfl rfl ty89 (fun _ => rfl) rfl rfl))) (ac (.inr (OpVal.plain rfl rfl (v_len rfl sl89 rfl))) an))))))))) rfl (by kernel_rfl) ?_
     clear hok
     intro hok
     refine TrAny.next (j := 11) (by kernel_rfl) hok rfl (by kernel_rfl) (op_store' (k := 2) (c' := [.slice A290 ((r19 ++ r23).length) c14]) rfl rfl rfl rfl rfl ty40 rfl (Nat.le_of_ble_eq_true rfl) (ones (oc rfl on)) rfl ?_)
     refine nxs hok (kp_aw (by kernel_rfl)) rfl ?_
     clear hok
     intro hok
     refine TrAny.done (by kernel_rfl) (by kernel_rfl) hok (by kernel_rfl) (qthen_n ?_)
     refine Tr.seq ?_
     refine Tr.region ?_
     refine TrL.v (v_fieldAddr' rfl fo91_6 rfl rfl) rfl rfl (bl rfl) ?_
     refine TrL.v (v_load (k := 1) rfl rfl rfl ty89 (fun _ => rfl) rfl rfl) rfl rfl (bl rfl) ?_
     obtain ⟨r24, hr24, H⟩ := bnd H
     refine TrL.cons rfl (op_call0' (vs := [.slice A1 p1.2.2.2.2.2.2.1.length c1]) (cap := []) [0] rfl rfl (bl rfl) rfl rfl en106 (c_conf_seeds p1.2.2.2.2.2.2.1 A1 c1 r24 hr24) rfl (fun ret M' F' hR580 => ?_))
     obtain ⟨m585, rfl, rfl, rfl⟩ := hR580
     refine TrL.nil (qthen_n ?_)
     refine Tr.block ?_
     obtain ⟨j2, hj2, H⟩ := bnd H
     refine Tr.rangeF (ps := [58]) (X := List Int) (D := List Int) (E := Empty) (ι := Option Addr × Nat × Option Nat) (ιE := Unit) (μ := Option Addr × Nat) (κ := ((Option Addr × Nat × Option Nat) ⊕ Unit)) (cap := [.pointer (some ⟨m585, 0, none⟩)]) (TM := fun d5 m587 => [cells m441.1 [.slice m587.1 d5.length m587.2.1] 40, grow 5 1 (.slice m587.1 d5.length m587.2.1) d5.length m587.2.2]) (TF := fun d5 m587 => [slF (rInt .u8) m587.1 m587.2.1 d5]) (EM := fun _ _ => []) (EF := fun _ _ => []) (jmp := fun _ => .ret) (step := conf_Put_r0) (encs := fun x2 xm2 => [.slice xm2.1 x2.length xm2.2]) (FX := fun x2 xm2 => [slF (rInt .u8) xm2.1 xm2.2 x2]) (d0 := r19 ++ r23) (m0 := (A290, c14, o13)) (x := j2) (Mp := [cells m585 [.slice A1 p1.2.2.2.2.2.2.1.length c1] 89]) (Mr := [grow 5 1 (.slice m584.1 r23.length m584.2.1) r23.length m584.2.2, cells b74 [.int .i64 p1.1, .int .i64 p1.2.1, .int .u64 p1.2.2.1, .int .u64 p1.2.2.2.1, .int .i64 p1.2.2.2.2.1, .int .i64 p1.2.2.2.2.2.1, .slice A1 p1.2.2.2.2.2.2.1.length c1, .int .i64 p1.2.2.2.2.2.2.2.1, .int .i64 p1.2.2.2.2.2.2.2.2] 91]) (Fp := [slF rp_u64_u64 A1 c1 p1.2.2.2.2.2.2.1]) (Mq := fun k2 => [cells m585 [.slice A1 p1.2.2.2.2.2.2.1.length c1] 89]) (Fq := fun k2 => [slF rp_u64_u64 A1 c1 p1.2.2.2.2.2.2.1]) [3, 4, 0, 1, 2] [4] [0] rfl en156 (by decide) rfl rfl rfl (fun l2 C2 hy4 => ?_) (by decide) (ps_lt rfl) (fun _ _ => rfl) (fun l2 bs1 γ1 w1 x2 xm2 d5 m587 y2 hy3 => ?_) (fun d5 m587 k2 b146 hx2 => ?_) (fun q qm k2 b146 hx2 => ?_)
     ·exact (c_conf_seeds_1 (yl (conf_Put_r0)) C2 l2 hy4 p1.2.2.2.2.2.2.1 (.inl (r19 ++ r23)) m585 A1 c1 (.inl ((A290, c14, o13))) j2 hj2).mono (fun ret M' F' hR => by obtain ⟨k2, _, hM, hF⟩ := hR; exact ⟨k2, k2, hM, hF⟩)
     ·unfold conf_Put_r0 at hy3
      refine Tr.region ?_
      refine TrL.v (v_assign rfl rfl) rfl rfl (bl rfl) ?_
      refine TrL.nil (⟨rfl, fun bs2 γ2 w2 => ?_⟩)
      refine Tr.block ?_
      refine Tr.region ?_
      refine TrL.v (v_load (k := 0) rfl rfl rfl ty40 (fun _ => rfl) rfl rfl) rfl rfl (bl rfl) ?_
      refine TrL.v (v_move rfl rfl) rfl rfl (bl rfl) ?_
      obtain ⟨h22, hy3⟩ := rom hy3
      refine TrL.cons rfl (op_append' (rp := (rInt .u8)) (xs := d5) (ys := x2) (k := 1) (kx := 0) (ky := 1) rfl (bl rfl) rfl sl40 ty5 ze5 rfl by5 rfl rfl rfl rfl rfl rfl rfl h22.1 h22.2 (fun A293 c17 o16 => ?_))
      refine TrL.cons rfl (op_store' (k := 0) (c' := [.slice A293 ((d5 ++ x2).length) c17]) rfl rfl rfl rfl rfl ty40 rfl (Nat.le_of_ble_eq_true rfl) (ones (oc rfl on)) rfl ?_)
      have hz := Option.some.inj hy3
      subst hz
      refine TrL.nil (qblock_n (⟨d5 ++ x2, (A293, c17, o16), rfl, Imp.re _ [0, 1] [2] sn (by decide) rfl rfl rfl⟩))
     ·rw [hx2] at H
      replace H := suml H
      refine (qblock_n (qblock_n (qthen_n ?_)))
      refine Tr.seq ?_
      refine Tr.region ?_
      refine TrL.v (v_load (k := 1) rfl rfl rfl ty40 (fun _ => rfl) rfl rfl) rfl rfl (bl rfl) ?_
      refine TrL.v (v_assign rfl rfl) rfl rfl (bl rfl) ?_
      refine TrL.nil (qthen_n ?_)
      have hz := Option.some.inj H
      subst hz
      refine Tr.ret (ret_rm ⟨[(2, .slice m587.1 d5.length m587.2.1)], [objc b146 (.deferred (some []))], [slF (rInt .u8) m587.1 m587.2.1 d5], [dmark b146]⟩ [.slice m587.1 d5.length m587.2.1] [] [] [b146] (Imp.re _ [0] [7] (sc rfl sn) (by decide) rfl rfl rfl) rfl rfl ⟨((m587.1, m587.2.1)), rfl, rfl, rfl⟩ (.cons (resv_tmp rfl) .nil))
     ·exact q.elim
    ·refine Tr.cond_f rfl (bf_dec h17) ?_
     refine Tr.regionD drawn (fun hok => ?_)
     refine TrAny.prom (i := 0) (d := 26) hok (OpVal.plain rfl rfl (v_load (k := 1) rfl rfl rfl ty40 (fun _ => rfl) rfl rfl)) (by kernel_rfl) rfl (bl rfl) ?_
     clear hok
     intro hok
     refine TrAny.prom (i := 1) (d := 27) hok (OpVal.plain rfl rfl (v_fieldAddr' rfl fo91_7 rfl rfl)) (by kernel_rfl) rfl (bl rfl) ?_
     clear hok
     intro hok
     refine TrAny.prom (i := 2) (d := 28) hok (OpVal.plain rfl rfl (v_load (k := 0) rfl rfl rfl ty3 (fun _ => rfl) rfl rfl)) (by kernel_rfl) rfl (bl rfl) ?_
     clear hok
     intro hok
     refine TrAny.prom (i := 3) (d := 29) hok (OpVal.plain rfl rfl (v_fieldAddr' rfl fo91_8 rfl rfl)) (by kernel_rfl) rfl (bl rfl) ?_
     clear hok
     intro hok
     refine TrAny.prom (i := 4) (d := 30) hok (OpVal.plain rfl rfl (v_load (k := 0) rfl rfl rfl ty3 (fun _ => rfl) rfl rfl)) (by kernel_rfl) rfl (bl rfl) ?_
     clear hok
     intro hok
     refine TrAny.next (j := 5) (by kernel_rfl) hok rfl (by kernel_rfl) (op_buildSlice' (rp := (rInt .i64)) (xs := [p1.2.2.2.2.2.2.2.1, p1.2.2.2.2.2.2.2.2]) (vs := [.int .i64 p1.2.2.2.2.2.2.2.1, .int .i64 p1.2.2.2.2.2.2.2.2]) (out := [.int .i64 p1.2.2.2.2.2.2.2.1, .int .i64 p1.2.2.2.2.2.2.2.2]) rfl (bl rfl) rfl sl221 ty3 ze3 rfl rfl (by decide) (by decide) rfl (fun γ w hF => (rowc rfl (rowc rfl rown rfl) rfl)) (fun A296 => ?_))
     refine nxp hok (kp_imp (kp_cf rfl)) rfl (by kernel_rfl) ?_
     clear hok
     intro hok
     obtain ⟨r26, hr26, H⟩ := bnd H
     refine TrAny.next (j := 6) (by kernel_rfl) hok rfl (by kernel_rfl) (op_call0' (vs := [.slice A296 2 2]) (cap := []) [2] rfl rfl (bl rfl) rfl rfl en105 (c_conf_nums ([p1.2.2.2.2.2.2.2.1, p1.2.2.2.2.2.2.2.2]) A296 2 r26 hr26) rfl (fun ret M' F' hR582 => ?_))
     obtain ⟨m590, rfl, rfl, rfl⟩ := hR582
     refine nxp hok (kp_imp (kp_c0 rfl)) rfl (by kernel_rfl) ?_
     clear hok
     intro hok
     obtain ⟨h24, H⟩ := rom H
     refine TrAny.next (j := 7) (by kernel_rfl) hok rfl (by kernel_rfl) (op_append' (rp := (rInt .u8)) (xs := r19) (ys := r26) (k := 3) (kx := 1) (ky := 3) rfl (bl rfl) rfl sl40 ty5 ze5 rfl by5 rfl rfl rfl rfl rfl rfl rfl h24.1 h24.2 (fun A297 c19 o18 => ?_))
     refine nxp hok (kp_all (ac (.inl (by kernel_rfl)) (ac (.inr (OpVal.plain rfl rfl (v_fieldAddr' rfl fo91_7 rfl rfl))) (ac (.inr (OpVal.plain rfl rfl (v_load (k := 1) rfl rfl rfl ty3 (fun _ => rfl) rfl rfl))) (ac (.inr (OpVal.plain rfl rfl (v_fieldAddr' rfl fo91_8 rfl rfl))) (ac (.inr (OpVal.plain rfl rfl (v_load (k := 1) rfl rfl rfl ty3 (fun _ => rfl) rfl rfl))) an)))))) rfl (by kernel_rfl) ?_
     clear hok
     intro hok
     refine TrAny.next (j := 8) (by kernel_rfl) hok rfl (by kernel_rfl) (op_store' (k := 2) (c' := [.slice A297 ((r19 ++ r26).length) c19]) rfl rfl rfl rfl rfl ty40 rfl (Nat.le_of_ble_eq_true rfl) (ones (oc rfl on)) rfl ?_)
     refine nxs hok (kp_aw (by kernel_rfl)) rfl ?_
     clear hok
     intro hok
     refine TrAny.done (by kernel_rfl) (by kernel_rfl) hok (by kernel_rfl) (qblock_n (qthen_n ?_))
     refine Tr.seq ?_
     refine Tr.region ?_
     refine TrL.v (v_load (k := 2) rfl rfl rfl ty40 (fun _ => rfl) rfl rfl) rfl rfl (bl rfl) ?_
     refine TrL.v (v_assign rfl rfl) rfl rfl (bl rfl) ?_
     refine TrL.nil (qthen_n ?_)
     have hz := Option.some.inj H
     subst hz
     refine Tr.ret (ret_r ⟨[(2, .slice A297 ((r19 ++ r26).length) c19)], [], [slF (rInt .u8) A297 c19 (r19 ++ r26)], []⟩ [.slice A297 ((r19 ++ r26).length) c19] [] [] (Imp.re _ [] [4] (sc rfl sn) (by decide) rfl rfl rfl) rfl rfl ⟨((A297, c19)), rfl, rfl, rfl⟩ (.cons (resv_tmp rfl) .nil))
end Go.Proofs.Ytbeknohemgjfbaa.W
