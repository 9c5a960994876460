import Derived.Test.YtbeknohemgjfbaaKcv
import Derived.Test.YtbeknohemgjfbaaQcv
import Derived.Test.YtbeknohemgjfbaaWcodecacv
import Derived.Test.YtbeknohemgjfbaaWconfecv
namespace Go.Proofs.Ytbeknohemgjfbaa.W
open Go Go.Proofs Go.Proofs.Ytbeknohemgjfbaa.L Go.Proofs.Ytbeknohemgjfbaa.Pu
set_option linter.unusedVariables false
set_option maxHeartbeats 4000000

theorem c_conf_Take (p1 : List Int × Int) (b1 : Nat) (A1 : Option Addr) (c1 : Nat) (r : Int × Int × Int × Int × Int × Int × (List (Int × Int)) × Int × Int × List Int × Int) (H : conf_Take p1 = some r) :
  Ctr Try.prog 51 [.pointer (some ⟨b1, 0, none⟩)] [cells b1 [.slice A1 p1.1.length c1, .int .i64 p1.2] 116] [slF (rInt .u8) A1 c1 p1.1] (fun ret M' F' => ∃ m : Option Addr × Nat × Option Addr × Nat, ret = .agg #[.int .i64 r.1, .int .i64 r.2.1, .int .u64 r.2.2.1, .int .u64 r.2.2.2.1, .int .i64 r.2.2.2.2.1, .int .i64 r.2.2.2.2.2.1, .slice m.1 r.2.2.2.2.2.2.1.length m.2.1, .int .i64 r.2.2.2.2.2.2.2.1, .int .i64 r.2.2.2.2.2.2.2.2.1] ∧ M' = [cells b1 [.slice m.2.2.1 r.2.2.2.2.2.2.2.2.2.1.length m.2.2.2, .int .i64 r.2.2.2.2.2.2.2.2.2.2] 116] ∧ F' = [slF rp_u64_u64 m.1 m.2.1 r.2.2.2.2.2.2.1, slF (rInt .u8) m.2.2.1 m.2.2.2 r.2.2.2.2.2.2.2.2.2.1]) := by
 unfold conf_Take at H
 refine ctr_ofI (N := 73) Try.func51 rfl Try.ntmps51 rfl (Nat.le_of_ble_eq_true rfl) (fun γ0 w0 => ?_)
 refine Tr.seq ?_
 refine Tr.region ?_
 refine TrL.cons rfl (op_alloc' rfl (bl rfl) rfl ze91 (fun b4 => ?_))
 refine TrL.nil (qthen_n ?_)
 refine Tr.seq ?_
 refine Tr.region ?_
 refine TrL.v (v_move rfl rfl) rfl rfl (bl rfl) ?_
 obtain ⟨r68, hr68, H⟩ := bnd H
 refine TrL.cons rfl (op_callg' (fs := []) (vs := [.pointer (some ⟨b1, 0, none⟩), .int .u64 3]) (cap := []) (Mr := [cells b4 [.int .i64 0, .int .i64 0, .int .u64 0, .int .u64 0, .int .i64 0, .int .i64 0, .slice none 0 0, .int .i64 0, .int .i64 0] 91]) [1] [0] [0] rfl rfl rfl en69 (c_codec_Reader_Num p1 ((3 : Int)) b1 A1 c1 r68 hr68) (by decide) rfl rfl rfl (bl rfl) (fun ret M' F' hR68 => ?_))
 obtain ⟨m83, rfl, rfl, rfl⟩ := hR68
 refine TrL.v (v_conv' rfl ⟨_, Try.underlying28⟩ Try.underlying3 rfl wrap_i64') rfl rfl (bl rfl) ?_
 refine TrL.v (v_move rfl rfl) rfl rfl (bl rfl) ?_
 obtain ⟨r69, hr69, H⟩ := bnd H
 refine TrL.cons rfl (op_callg' (fs := []) (vs := [.pointer (some ⟨b1, 0, none⟩), .int .u64 4611686018427387904]) (cap := []) (Mr := [cells b4 [.int .i64 0, .int .i64 0, .int .u64 0, .int .u64 0, .int .i64 0, .int .i64 0, .slice none 0 0, .int .i64 0, .int .i64 0] 91]) [0] [1] [1] rfl rfl rfl en69 (c_codec_Reader_Num r68.2 ((4611686018427387904 : Int)) b1 m83.1 m83.2 r69 hr69) (by decide) rfl rfl rfl (bl rfl) (fun ret M' F' hR69 => ?_))
 obtain ⟨m84, rfl, rfl, rfl⟩ := hR69
 refine TrL.v (v_move rfl rfl) rfl rfl (bl rfl) ?_
 obtain ⟨r70, hr70, H⟩ := bnd H
 refine TrL.cons rfl (op_callg' (fs := []) (vs := [.pointer (some ⟨b1, 0, none⟩), .int .u64 4611686018427387904]) (cap := []) (Mr := [cells b4 [.int .i64 0, .int .i64 0, .int .u64 0, .int .u64 0, .int .i64 0, .int .i64 0, .slice none 0 0, .int .i64 0, .int .i64 0] 91]) [0] [1] [2] rfl rfl rfl en69 (c_codec_Reader_Num r69.2 ((4611686018427387904 : Int)) b1 m84.1 m84.2 r70 hr70) (by decide) rfl rfl rfl (bl rfl) (fun ret M' F' hR70 => ?_))
 obtain ⟨m85, rfl, rfl, rfl⟩ := hR70
 refine TrL.v (v_move rfl rfl) rfl rfl (bl rfl) ?_
 obtain ⟨r71, hr71, H⟩ := bnd H
 refine TrL.cons rfl (op_callg' (fs := []) (vs := [.pointer (some ⟨b1, 0, none⟩), .int .u64 1024]) (cap := []) (Mr := [cells b4 [.int .i64 0, .int .i64 0, .int .u64 0, .int .u64 0, .int .i64 0, .int .i64 0, .slice none 0 0, .int .i64 0, .int .i64 0] 91]) [0] [1] [3] rfl rfl rfl en69 (c_codec_Reader_Num r70.2 ((1024 : Int)) b1 m85.1 m85.2 r71 hr71) (by decide) rfl rfl rfl (bl rfl) (fun ret M' F' hR71 => ?_))
 obtain ⟨m86, rfl, rfl, rfl⟩ := hR71
 refine TrL.v (v_conv' rfl ⟨_, Try.underlying28⟩ Try.underlying3 rfl wrap_i64') rfl rfl (bl rfl) ?_
 refine TrL.v (v_build (vs := [.int .i64 (wi64 r68.1), .int .u64 r69.1, .int .u64 r70.1, .int .i64 (wi64 r71.1)]) (out := [.int .i64 (wi64 r68.1), .int .i64 0, .int .u64 r69.1, .int .u64 r70.1, .int .i64 (wi64 r71.1), .int .i64 0, .slice none 0 0, .int .i64 0, .int .i64 0]) rfl pl91 ze91 rfl rfl) rfl rfl (bl rfl) ?_
 refine TrL.cons rfl (op_alloc' rfl (bl rfl) rfl ze91 (fun b5 => ?_))
 refine TrL.cons rfl (op_store' (k := 0) (c' := [.int .i64 (wi64 r68.1), .int .i64 0, .int .u64 r69.1, .int .u64 r70.1, .int .i64 (wi64 r71.1), .int .i64 0, .slice none 0 0, .int .i64 0, .int .i64 0]) rfl rfl rfl rfl rfl ty91 rfl (Nat.le_of_ble_eq_true rfl) (ones (oc rfl (oc rfl (oc rfl (oc rfl (oc rfl (oc rfl (oc rfl (oc rfl (oc rfl on)))))))))) rfl ?_)
 refine TrL.nil (qthen_n ?_)
 refine Tr.seq ?_
 refine Tr.seq ?_
 refine Tr.region ?_
 refine TrL.v (v_fieldAddr' rfl fo91_0 rfl rfl) rfl rfl (bl rfl) ?_
 refine TrL.v (v_load (k := 0) rfl rfl rfl ty3 (fun _ => rfl) rfl rfl) rfl rfl (bl rfl) ?_
 refine TrL.nil (qthen_n ?_)
 refine Tr.block ?_
 refine Tr.seq ?_
 refine Tr.region ?_
 refine TrL.v (v_arith rfl rfl rfl ar_eql) rfl rfl (bl rfl) ?_
 refine TrL.v (v_assign rfl rfl) rfl rfl (bl rfl) ?_
 refine TrL.nil (qthen_n ?_)
 obtain ⟨j6, hj6, H⟩ := bnd H
 refine Tr.cutE (D := List Int × Int × Int × Int × (List (Int × Int)) × Int × Int) (M := Option Addr × Nat × Option Addr × Nat × Option Nat) .normal (fun _d => j6 = _d) (fun j6 m134 => ⟨[(0, .pointer (some ⟨b1, 0, none⟩)), (2, .pointer (some ⟨b4, 0, none⟩)), (3, .pointer (some ⟨b5, 0, none⟩))], [cells b1 [.slice m134.1 j6.1.length m134.2.1, .int .i64 j6.2.1] 116, cells b4 [.int .i64 0, .int .i64 0, .int .u64 0, .int .u64 0, .int .i64 0, .int .i64 0, .slice none 0 0, .int .i64 0, .int .i64 0] 91, cells b5 [.int .i64 (wi64 r68.1), .int .i64 j6.2.2.1, .int .u64 r69.1, .int .u64 r70.1, .int .i64 (wi64 r71.1), .int .i64 j6.2.2.2.1, .slice m134.2.2.1 j6.2.2.2.2.1.length m134.2.2.2.1, .int .i64 j6.2.2.2.2.2.1, .int .i64 j6.2.2.2.2.2.2] 91, grow 184 2 (.slice m134.2.2.1 j6.2.2.2.2.1.length m134.2.2.2.1) j6.2.2.2.2.1.length m134.2.2.2.2], [slF (rInt .u8) m134.1 m134.2.1 j6.1, slF rp_u64_u64 none 0 (([] : List (Int × Int))), slF rp_u64_u64 m134.2.2.1 m134.2.2.2.1 j6.2.2.2.2.1], []⟩) ?_ (fun j6 m134 hd12 => ?_)
 ·rcases ifc hj6 with ⟨h67, hj6⟩ | ⟨h67, hj6⟩
  ·refine Tr.cond_t rfl (bt_dec h67) ?_
   refine Tr.region ?_
   refine TrL.v (v_move rfl rfl) rfl rfl (bl rfl) ?_
   obtain ⟨r109, hr109, hj6⟩ := bnd hj6
   refine TrL.cons rfl (op_callg' (fs := []) (vs := [.pointer (some ⟨b1, 0, none⟩), .int .u64 1024]) (cap := []) (Mr := [cells b5 [.int .i64 (wi64 r68.1), .int .i64 0, .int .u64 r69.1, .int .u64 r70.1, .int .i64 (wi64 r71.1), .int .i64 0, .slice none 0 0, .int .i64 0, .int .i64 0] 91, cells b4 [.int .i64 0, .int .i64 0, .int .u64 0, .int .u64 0, .int .i64 0, .int .i64 0, .slice none 0 0, .int .i64 0, .int .i64 0] 91]) [1] [0, 2] [4] rfl rfl rfl en69 (c_codec_Reader_Num r71.2 ((1024 : Int)) b1 m86.1 m86.2 r109 hr109) (by decide) rfl rfl rfl (bl rfl) (fun ret M' F' hR109 => ?_))
   obtain ⟨m135, rfl, rfl, rfl⟩ := hR109
   refine TrL.v (v_conv' rfl ⟨_, Try.underlying28⟩ Try.underlying3 rfl wrap_i64') rfl rfl (bl rfl) ?_
   refine TrL.v (v_fieldAddr' rfl fo91_1 rfl rfl) rfl rfl (bl rfl) ?_
   refine TrL.cons rfl (op_store' (k := 1) (c' := [.int .i64 (wi64 r68.1), .int .i64 (wi64 r109.1), .int .u64 r69.1, .int .u64 r70.1, .int .i64 (wi64 r71.1), .int .i64 0, .slice none 0 0, .int .i64 0, .int .i64 0]) rfl rfl rfl rfl rfl ty3 rfl (Nat.le_of_ble_eq_true rfl) (ones (oc rfl on)) rfl ?_)
   refine TrL.nil (qcut_hit ((r109.2.1, r109.2.2, wi64 r109.1, (0 : Int), ([] : List (Int × Int)), (0 : Int), (0 : Int))) ((m135.1, m135.2, none, 0, none)) (Option.some.inj hj6).symm (Imp.full' (E := 184) (sz := 2) (A := none) (n := 0) (Imp.addF' _ (nilF rp_u64_u64) (Imp.re _ [1, 3, 2, 0] [5, 6, 6] (sc rfl (sc rfl (sc rfl sn))) (by decide) rfl rfl rfl))))
  ·refine Tr.cond_f rfl (bf_dec h67) ?_
   refine Tr.seq ?_
   refine Tr.region ?_
   refine TrL.v (v_arith rfl rfl rfl ar_eql) rfl rfl (bl rfl) ?_
   refine TrL.v (v_assign rfl rfl) rfl rfl (bl rfl) ?_
   refine TrL.nil (qthen_n ?_)
   rcases ifc hj6 with ⟨h68, hj6⟩ | ⟨h68, hj6⟩
   ·refine Tr.cond_t rfl (bt_dec h68) ?_
    refine Tr.seq ?_
    refine Tr.region ?_
    refine TrL.v (v_move rfl rfl) rfl rfl (bl rfl) ?_
    obtain ⟨r110, hr110, hj6⟩ := bnd hj6
    refine TrL.cons rfl (op_callg' (fs := []) (vs := [.pointer (some ⟨b1, 0, none⟩), .int .u64 1024]) (cap := []) (Mr := [cells b5 [.int .i64 (wi64 r68.1), .int .i64 0, .int .u64 r69.1, .int .u64 r70.1, .int .i64 (wi64 r71.1), .int .i64 0, .slice none 0 0, .int .i64 0, .int .i64 0] 91, cells b4 [.int .i64 0, .int .i64 0, .int .u64 0, .int .u64 0, .int .i64 0, .int .i64 0, .slice none 0 0, .int .i64 0, .int .i64 0] 91]) [1] [0, 2] [4] rfl rfl rfl en69 (c_codec_Reader_Num r71.2 ((1024 : Int)) b1 m86.1 m86.2 r110 hr110) (by decide) rfl rfl rfl (bl rfl) (fun ret M' F' hR110 => ?_))
    obtain ⟨m136, rfl, rfl, rfl⟩ := hR110
    refine TrL.v (v_conv' rfl ⟨_, Try.underlying28⟩ Try.underlying3 rfl wrap_i64') rfl rfl (bl rfl) ?_
    refine TrL.v (v_move rfl rfl) rfl rfl (bl rfl) ?_
    obtain ⟨r111, hr111, hj6⟩ := bnd hj6
    refine TrL.cons rfl (op_callg' (fs := []) (vs := [.pointer (some ⟨b1, 0, none⟩), .int .u64 256]) (cap := []) (Mr := [cells b5 [.int .i64 (wi64 r68.1), .int .i64 0, .int .u64 r69.1, .int .u64 r70.1, .int .i64 (wi64 r71.1), .int .i64 0, .slice none 0 0, .int .i64 0, .int .i64 0] 91, cells b4 [.int .i64 0, .int .i64 0, .int .u64 0, .int .u64 0, .int .i64 0, .int .i64 0, .slice none 0 0, .int .i64 0, .int .i64 0] 91]) [0] [1, 2] [5] rfl rfl rfl en69 (c_codec_Reader_Num r110.2 ((256 : Int)) b1 m136.1 m136.2 r111 hr111) (by decide) rfl rfl rfl (bl rfl) (fun ret M' F' hR111 => ?_))
    obtain ⟨m137, rfl, rfl, rfl⟩ := hR111
    refine TrL.v (v_conv' rfl ⟨_, Try.underlying28⟩ Try.underlying3 rfl wrap_i64') rfl rfl (bl rfl) ?_
    refine TrL.v (v_fieldAddr' rfl fo91_1 rfl rfl) rfl rfl (bl rfl) ?_
    refine TrL.cons rfl (op_store' (k := 1) (c' := [.int .i64 (wi64 r68.1), .int .i64 (wi64 r110.1), .int .u64 r69.1, .int .u64 r70.1, .int .i64 (wi64 r71.1), .int .i64 0, .slice none 0 0, .int .i64 0, .int .i64 0]) rfl rfl rfl rfl rfl ty3 rfl (Nat.le_of_ble_eq_true rfl) (ones (oc rfl on)) rfl ?_)
    refine TrL.v (v_fieldAddr' rfl fo91_5 rfl rfl) rfl rfl (bl rfl) ?_
    refine TrL.cons rfl (op_store' (k := 1) (c' := [.int .i64 (wi64 r68.1), .int .i64 (wi64 r110.1), .int .u64 r69.1, .int .u64 r70.1, .int .i64 (wi64 r71.1), .int .i64 (wi64 r111.1), .slice none 0 0, .int .i64 0, .int .i64 0]) rfl rfl rfl rfl rfl ty3 rfl (Nat.le_of_ble_eq_true rfl) (ones (oc rfl on)) rfl ?_)
    refine TrL.nil (qthen_n ?_)
    refine Tr.seq ?_
    refine Tr.region ?_
    refine TrL.v (v_move rfl rfl) rfl rfl (bl rfl) ?_
    obtain ⟨r112, hr112, hj6⟩ := bnd hj6
    refine TrL.cons rfl (op_callg' (fs := []) (vs := [.pointer (some ⟨b1, 0, none⟩), .int .u64 8]) (cap := []) (Mr := [cells b5 [.int .i64 (wi64 r68.1), .int .i64 (wi64 r110.1), .int .u64 r69.1, .int .u64 r70.1, .int .i64 (wi64 r71.1), .int .i64 (wi64 r111.1), .slice none 0 0, .int .i64 0, .int .i64 0] 91, cells b4 [.int .i64 0, .int .i64 0, .int .u64 0, .int .u64 0, .int .i64 0, .int .i64 0, .slice none 0 0, .int .i64 0, .int .i64 0] 91]) [0] [1, 2] [6] rfl rfl rfl en69 (c_codec_Reader_Num r111.2 ((8 : Int)) b1 m137.1 m137.2 r112 hr112) (by decide) rfl rfl rfl (bl rfl) (fun ret M' F' hR112 => ?_))
    obtain ⟨m138, rfl, rfl, rfl⟩ := hR112
    refine TrL.v (v_move rfl rfl) rfl rfl (bl rfl) ?_
    refine TrL.nil (qthen_n ?_)
    obtain ⟨x6, hx11, hj6⟩ := bnd hj6
    refine Tr.cutE (D := List Int × Int × List (Int × Int)) (M := Option Addr × Nat × Option Addr × Nat × Option Nat) .normal (fun _d => x6 = _d) (fun x6 m150 => ⟨[(0, .pointer (some ⟨b1, 0, none⟩)), (2, .pointer (some ⟨b4, 0, none⟩)), (3, .pointer (some ⟨b5, 0, none⟩))], [cells b1 [.slice m150.1 x6.1.length m150.2.1, .int .i64 x6.2.1] 116, cells b4 [.int .i64 0, .int .i64 0, .int .u64 0, .int .u64 0, .int .i64 0, .int .i64 0, .slice none 0 0, .int .i64 0, .int .i64 0] 91, cells b5 [.int .i64 (wi64 r68.1), .int .i64 (wi64 r110.1), .int .u64 r69.1, .int .u64 r70.1, .int .i64 (wi64 r71.1), .int .i64 (wi64 r111.1), .slice m150.2.2.1 x6.2.2.length m150.2.2.2.1, .int .i64 0, .int .i64 0] 91, grow 184 2 (.slice m150.2.2.1 x6.2.2.length m150.2.2.2.1) x6.2.2.length m150.2.2.2.2], [slF (rInt .u8) m150.1 m150.2.1 x6.1, slF rp_u64_u64 none 0 (([] : List (Int × Int))), slF rp_u64_u64 m150.2.2.1 m150.2.2.2.1 x6.2.2], []⟩) ?_ (fun x6 m150 hd11 => ?_)
    ·refine Tr.block (Tr.loopI (ι := Option Addr × Nat × Option Addr × Nat × Option Nat) (step := conf_Take_s0 r112) (fun s17 m144 => ⟨[(0, .pointer (some ⟨b1, 0, none⟩)), (2, .pointer (some ⟨b4, 0, none⟩)), (3, .pointer (some ⟨b5, 0, none⟩)), (34, .int .u64 r112.1), (35, .int .u64 s17.1)], [cells b1 [.slice m144.1 s17.2.1.length m144.2.1, .int .i64 s17.2.2.1] 116, cells b4 [.int .i64 0, .int .i64 0, .int .u64 0, .int .u64 0, .int .i64 0, .int .i64 0, .slice none 0 0, .int .i64 0, .int .i64 0] 91, cells b5 [.int .i64 (wi64 r68.1), .int .i64 (wi64 r110.1), .int .u64 r69.1, .int .u64 r70.1, .int .i64 (wi64 r71.1), .int .i64 (wi64 r111.1), .slice m144.2.2.1 s17.2.2.2.length m144.2.2.2.1, .int .i64 0, .int .i64 0] 91, grow 184 2 (.slice m144.2.2.1 s17.2.2.2.length m144.2.2.2.1) s17.2.2.2.length m144.2.2.2.2], [slF (rInt .u8) m144.1 m144.2.1 s17.2.1, slF rp_u64_u64 none 0 (([] : List (Int × Int))), slF rp_u64_u64 m144.2.2.1 m144.2.2.2.1 s17.2.2.2], []⟩) ((m138.1, m138.2, none, 0, none)) hx11 (Imp.full' (E := 184) (sz := 2) (A := none) (n := 0) (Imp.addF' _ (nilF rp_u64_u64) (Imp.re _ [1, 3, 2, 0] [7, 8, 8] (sc rfl (sc rfl (sc rfl (sc rfl (sc rfl sn))))) (by decide) rfl rfl rfl))) (fun s17 m144 y6 hy6 hx12 => ?_))
     unfold conf_Take_s0 at hy6
     refine Tr.seq ?_
     refine Tr.region ?_
     refine TrL.v (v_arith rfl rfl rfl ar_lss) rfl rfl (bl rfl) ?_
     refine TrL.nil (qthen_n ?_)
     refine Tr.seq ?_
     rcases ifc hy6 with ⟨h75, hy6⟩ | ⟨h75, hy6⟩
     ·refine Tr.cond_t rfl (bt_dec h75) ?_
      refine Tr.skip (qthen_n ?_)
      refine Tr.seq ?_
      refine Tr.block ?_
      refine Tr.regionD drawn (fun hok => ?_)
      refine TrAny.prom (i := 0) (d := 37) hok (OpVal.plain rfl rfl (v_fieldAddr' rfl fo91_6 rfl rfl)) (by kernel_rfl) rfl (bl rfl) ?_
      clear hok
      intro hok
      refine TrAny.prom (i := 1) (d := 38) hok (OpVal.plain rfl rfl (v_load (k := 2) rfl rfl rfl ty89 (fun _ => rfl) rfl rfl)) (by kernel_rfl) rfl (bl rfl) ?_
      clear hok
      intro hok
      refine TrAny.prom (i := 2) (d := 39) hok (OpVal.plain rfl rfl (v_move rfl rfl)) (by kernel_rfl) rfl (bl rfl) ?_
      clear hok
      intro hok
      refine TrAny.prom (i := 4) (d := 41) hok (OpVal.plain rfl rfl (v_move rfl rfl)) (by kernel_rfl) rfl (bl rfl) ?_
      clear hok
      intro hok
      refine TrAny.prom (i := 9) (d := 46) hok (OpVal.plain rfl rfl (v_fieldAddr' rfl fo91_6 rfl rfl)) (by kernel_rfl) rfl (bl rfl) ?_
      clear hok
      intro hok
      obtain ⟨r123, hr123, hy6⟩ := bnd hy6
      refine TrAny.next (j := 3) (by kernel_rfl) hok rfl (by kernel_rfl) (op_callg' (fs := []) (vs := [.pointer (some ⟨b1, 0, none⟩)]) (cap := []) (Mr := [cells b4 [.int .i64 0, .int .i64 0, .int .u64 0, .int .u64 0, .int .i64 0, .int .i64 0, .slice none 0 0, .int .i64 0, .int .i64 0] 91, cells b5 [.int .i64 (wi64 r68.1), .int .i64 (wi64 r110.1), .int .u64 r69.1, .int .u64 r70.1, .int .i64 (wi64 r71.1), .int .i64 (wi64 r111.1), .slice m144.2.2.1 s17.2.2.2.length m144.2.2.2.1, .int .i64 0, .int .i64 0] 91, grow 184 2 (.slice m144.2.2.1 s17.2.2.2.length m144.2.2.2.1) s17.2.2.2.length m144.2.2.2.2]) [0] [1, 2, 3] [0] rfl rfl rfl en109 (c_codec_Reader_Fixed ((s17.2.1, s17.2.2.1)) b1 m144.1 m144.2.1 r123 hr123) (by decide) rfl rfl rfl (bl rfl) (fun ret M' F' hR123 => ?_))
      obtain ⟨m153, rfl, rfl, rfl⟩ := hR123
      refine nxp hok (by first | exact (kp_imp (kp_cc [0, 1, 2, 3] rfl (by decide) rfl)) | exact (kp_all (ac (.inr (OpVal.plain rfl rfl (v_fieldAddr' rfl fo91_6 rfl rfl))) (ac (.inr (OpVal.plain rfl rfl (v_load (k := 2) rfl rfl rfl ty89 (fun _ => rfl) rfl rfl))) (ac (.inl (by kernel_rfl)) (ac (.inr (OpVal.plain rfl rfl (v_move rfl rfl))) (ac (.inr (OpVal.plain rfl rfl (v_fieldAddr' rfl fo91_6 rfl rfl))) an))))))) rfl (by kernel_rfl) ?_
      clear hok
      intro hok
      obtain ⟨r124, hr124, hy6⟩ := bnd hy6
      refine TrAny.next (j := 5) (by kernel_rfl) hok rfl (by kernel_rfl) (op_callg' (fs := []) (vs := [.pointer (some ⟨b1, 0, none⟩)]) (cap := []) (Mr := [cells b4 [.int .i64 0, .int .i64 0, .int .u64 0, .int .u64 0, .int .i64 0, .int .i64 0, .slice none 0 0, .int .i64 0, .int .i64 0] 91, cells b5 [.int .i64 (wi64 r68.1), .int .i64 (wi64 r110.1), .int .u64 r69.1, .int .u64 r70.1, .int .i64 (wi64 r71.1), .int .i64 (wi64 r111.1), .slice m144.2.2.1 s17.2.2.2.length m144.2.2.2.1, .int .i64 0, .int .i64 0] 91, grow 184 2 (.slice m144.2.2.1 s17.2.2.2.length m144.2.2.2.1) s17.2.2.2.length m144.2.2.2.2]) [0] [1, 2, 3] [3] rfl rfl rfl en109 (c_codec_Reader_Fixed r123.2 b1 m153.1 m153.2 r124 hr124) (by decide) rfl rfl rfl (bl rfl) (fun ret M' F' hR124 => ?_))
      obtain ⟨m154, rfl, rfl, rfl⟩ := hR124
      refine nxp hok (by first | exact (kp_imp (kp_cc [0, 1, 2, 3] rfl (by decide) rfl)) | exact (kp_all (ac (.inr (OpVal.plain rfl rfl (v_fieldAddr' rfl fo91_6 rfl rfl))) (ac (.inr (OpVal.plain rfl rfl (v_load (k := 2) rfl rfl rfl ty89 (fun _ => rfl) rfl rfl))) (ac (.inr (OpVal.plain rfl rfl (v_move rfl rfl))) (ac (.inl (by kernel_rfl)) (ac (.inr (OpVal.plain rfl rfl (v_fieldAddr' rfl fo91_6 rfl rfl))) an))))))) rfl (by kernel_rfl) ?_
      clear hok
      intro hok
      refine TrAny.prom (i := 6) (d := 43) hok (OpVal.plain rfl rfl (v_build (vs := [.int .u64 r123.1, .int .u64 r124.1]) (out := [.int .u64 r123.1, .int .u64 r124.1]) rfl pl184 ze184 rfl rfl)) (by kernel_rfl) rfl (bl rfl) ?_
      clear hok
      intro hok
      refine TrAny.next (j := 7) (by kernel_rfl) hok rfl (by kernel_rfl) (op_buildSlice' (rp := rp_u64_u64) (xs := [(r123.1, r124.1)]) (vs := [.agg #[.int .u64 r123.1, .int .u64 r124.1]]) (out := [.int .u64 r123.1, .int .u64 r124.1]) rfl (bl rfl) rfl sl89 ty184 ze184 rfl rfl (by decide) (by decide) rfl (fun γ w hF => (rowc rfl rown rfl)) (fun A72 => ?_))
      refine nxp hok (kp_imp (kp_cf rfl)) rfl (by kernel_rfl) ?_
      clear hok
      intro hok
      obtain ⟨h77, hy6⟩ := rom hy6
      refine TrAny.next (j := 8) (by kernel_rfl) hok rfl (by kernel_rfl) (op_append' (rp := rp_u64_u64) (xs := s17.2.2.2) (ys := [(r123.1, r124.1)]) (k := 3) (kx := 2) (ky := 5) rfl (bl rfl) rfl sl89 ty184 ze184 rfl by184 rfl rfl rfl rfl rfl rfl rfl h77.1 h77.2 (fun A73 c37 o36 => ?_))
      refine nxp hok (kp_all (ac (.inr (OpVal.plain rfl rfl (v_fieldAddr' rfl fo91_6 rfl rfl))) (ac (.inl (by kernel_rfl)) (ac (.inr (OpVal.plain rfl rfl (v_move rfl rfl))) (ac (.inr (OpVal.plain rfl rfl (v_move rfl rfl))) (ac (.inr (OpVal.plain rfl rfl (v_fieldAddr' rfl fo91_6 rfl rfl))) (ac (.inr (OpVal.plain rfl rfl (v_build (vs := [.int .u64 r123.1, .int .u64 r124.1]) (out := [.int .u64 r123.1, .int .u64 r124.1]) rfl pl184 ze184 rfl rfl))) an))))))) rfl (by kernel_rfl) ?_
      clear hok
      intro hok
      refine TrAny.next (j := 10) (by kernel_rfl) hok rfl (by kernel_rfl) (op_store' (k := 2) (c' := [.int .i64 (wi64 r68.1), .int .i64 (wi64 r110.1), .int .u64 r69.1, .int .u64 r70.1, .int .i64 (wi64 r71.1), .int .i64 (wi64 r111.1), .slice A73 ((s17.2.2.2 ++ ([(r123.1, r124.1)])).length) c37, .int .i64 0, .int .i64 0]) rfl rfl rfl rfl rfl ty89 rfl (Nat.le_of_ble_eq_true rfl) (ones (oc rfl on)) rfl ?_)
      refine nxs hok (kp_aw (by kernel_rfl)) rfl ?_
      clear hok
      intro hok
      refine TrAny.done (by kernel_rfl) (by kernel_rfl) hok (by kernel_rfl) (qblock_n (qthen_n ?_))
      refine Tr.region ?_
      refine TrL.v (v_arith rfl rfl rfl ar_add_u64) rfl rfl (bl rfl) ?_
      refine TrL.v (v_move rfl rfl) rfl rfl (bl rfl) ?_
      have hz := Option.some.inj hy6
      subst hz
      refine TrL.nil (qloop_n ((m154.1, m154.2, A73, c37, o36)) (Imp.re _ [0, 1, 2, 3] [4, 1, 6] (sc rfl (sc rfl (sc rfl (sc rfl (sc rfl sn))))) (by decide) rfl rfl rfl))
     ·refine Tr.cond_f rfl (bf_dec h75) ?_
      have hz := Option.some.inj hy6
      subst hz
      refine Tr.exit (qthen_x (qloop_x (qblock_hit (qcut_hit ((s17.2.1, s17.2.2.1, s17.2.2.2)) ((m144.1, m144.2.1, m144.2.2.1, m144.2.2.2.1, m144.2.2.2.2)) (hx12 _ rfl).symm (Imp.re _ [0, 1, 2, 3] [0, 1, 2] (sc rfl (sc rfl (sc rfl sn))) (by decide) rfl rfl rfl)))))
    ·subst hd11
     refine (qcut_hit ((x6.1, x6.2.1, wi64 r110.1, wi64 r111.1, x6.2.2, (0 : Int), (0 : Int))) ((m150.1, m150.2.1, m150.2.2.1, m150.2.2.2.1, m150.2.2.2.2)) (Option.some.inj hj6).symm (Imp.re _ [0, 1, 2, 3] [0, 1, 2] (sc rfl (sc rfl (sc rfl sn))) (by decide) rfl rfl rfl))
   ·refine Tr.cond_f rfl (bf_dec h68) ?_
    refine Tr.seq ?_
    refine Tr.region ?_
    refine TrL.v (v_arith rfl rfl rfl ar_eql) rfl rfl (bl rfl) ?_
    refine TrL.v (v_assign rfl rfl) rfl rfl (bl rfl) ?_
    refine TrL.nil (qthen_n ?_)
    rcases ifc hj6 with ⟨h78, hj6⟩ | ⟨h78, hj6⟩
    ·refine Tr.cond_t rfl (bt_dec h78) ?_
     refine Tr.region ?_
     refine TrL.v (v_move rfl rfl) rfl rfl (bl rfl) ?_
     obtain ⟨r125, hr125, hj6⟩ := bnd hj6
     refine TrL.cons rfl (op_callg' (fs := []) (vs := [.pointer (some ⟨b1, 0, none⟩), .int .u64 256]) (cap := []) (Mr := [cells b5 [.int .i64 (wi64 r68.1), .int .i64 0, .int .u64 r69.1, .int .u64 r70.1, .int .i64 (wi64 r71.1), .int .i64 0, .slice none 0 0, .int .i64 0, .int .i64 0] 91, cells b4 [.int .i64 0, .int .i64 0, .int .u64 0, .int .u64 0, .int .i64 0, .int .i64 0, .slice none 0 0, .int .i64 0, .int .i64 0] 91]) [1] [0, 2] [4] rfl rfl rfl en69 (c_codec_Reader_Num r71.2 ((256 : Int)) b1 m86.1 m86.2 r125 hr125) (by decide) rfl rfl rfl (bl rfl) (fun ret M' F' hR125 => ?_))
     obtain ⟨m155, rfl, rfl, rfl⟩ := hR125
     refine TrL.v (v_conv' rfl ⟨_, Try.underlying28⟩ Try.underlying3 rfl wrap_i64') rfl rfl (bl rfl) ?_
     refine TrL.v (v_move rfl rfl) rfl rfl (bl rfl) ?_
     obtain ⟨r126, hr126, hj6⟩ := bnd hj6
     refine TrL.cons rfl (op_callg' (fs := []) (vs := [.pointer (some ⟨b1, 0, none⟩), .int .u64 64]) (cap := []) (Mr := [cells b5 [.int .i64 (wi64 r68.1), .int .i64 0, .int .u64 r69.1, .int .u64 r70.1, .int .i64 (wi64 r71.1), .int .i64 0, .slice none 0 0, .int .i64 0, .int .i64 0] 91, cells b4 [.int .i64 0, .int .i64 0, .int .u64 0, .int .u64 0, .int .i64 0, .int .i64 0, .slice none 0 0, .int .i64 0, .int .i64 0] 91]) [0] [1, 2] [5] rfl rfl rfl en69 (c_codec_Reader_Num r125.2 ((64 : Int)) b1 m155.1 m155.2 r126 hr126) (by decide) rfl rfl rfl (bl rfl) (fun ret M' F' hR126 => ?_))
     obtain ⟨m156, rfl, rfl, rfl⟩ := hR126
     refine TrL.v (v_conv' rfl ⟨_, Try.underlying28⟩ Try.underlying3 rfl wrap_i64') rfl rfl (bl rfl) ?_
     refine TrL.v (v_fieldAddr' rfl fo91_7 rfl rfl) rfl rfl (bl rfl) ?_
     refine TrL.cons rfl (op_store' (k := 1) (c' := [.int .i64 (wi64 r68.1), .int .i64 0, .int .u64 r69.1, .int .u64 r70.1, .int .i64 (wi64 r71.1), .int .i64 0, .slice none 0 0, .int .i64 (wi64 r125.1), .int .i64 0]) rfl rfl rfl rfl rfl ty3 rfl (Nat.le_of_ble_eq_true rfl) (ones (oc rfl on)) rfl ?_)
     refine TrL.v (v_fieldAddr' rfl fo91_8 rfl rfl) rfl rfl (bl rfl) ?_
     refine TrL.cons rfl (op_store' (k := 1) (c' := [.int .i64 (wi64 r68.1), .int .i64 0, .int .u64 r69.1, .int .u64 r70.1, .int .i64 (wi64 r71.1), .int .i64 0, .slice none 0 0, .int .i64 (wi64 r125.1), .int .i64 (wi64 r126.1)]) rfl rfl rfl rfl rfl ty3 rfl (Nat.le_of_ble_eq_true rfl) (ones (oc rfl on)) rfl ?_)
     refine TrL.nil (qcut_hit ((r126.2.1, r126.2.2, (0 : Int), (0 : Int), ([] : List (Int × Int)), wi64 r125.1, wi64 r126.1)) ((m156.1, m156.2, none, 0, none)) (Option.some.inj hj6).symm (Imp.full' (E := 184) (sz := 2) (A := none) (n := 0) (Imp.addF' _ (nilF rp_u64_u64) (Imp.re _ [1, 3, 2, 0] [6, 7, 7] (sc rfl (sc rfl (sc rfl sn))) (by decide) rfl rfl rfl))))
    ·refine Tr.cond_f rfl (bf_dec h78) ?_
     refine Tr.skip (qcut_hit ((r71.2.1, r71.2.2, (0 : Int), (0 : Int), ([] : List (Int × Int)), (0 : Int), (0 : Int))) ((m86.1, m86.2, none, 0, none)) (Option.some.inj hj6).symm (Imp.full' (E := 184) (sz := 2) (A := none) (n := 0) (Imp.addF' _ (nilF rp_u64_u64) (Imp.re _ [2, 3, 1, 0] [4, 5, 5] (sc rfl (sc rfl (sc rfl sn))) (by decide) rfl rfl rfl))))
 ·subst hd12
  refine (qblock_n (qthen_n ?_))
  refine Tr.seq ?_
  refine Tr.seq ?_
  refine Tr.region ?_
  refine TrL.v (v_move rfl rfl) rfl rfl (bl rfl) ?_
  obtain ⟨r129, hr129, H⟩ := bnd H
  refine TrL.cons rfl (op_callg' (fs := []) (vs := [.pointer (some ⟨b1, 0, none⟩)]) (cap := []) (Mr := [cells b4 [.int .i64 0, .int .i64 0, .int .u64 0, .int .u64 0, .int .i64 0, .int .i64 0, .slice none 0 0, .int .i64 0, .int .i64 0] 91, cells b5 [.int .i64 (wi64 r68.1), .int .i64 j6.2.2.1, .int .u64 r69.1, .int .u64 r70.1, .int .i64 (wi64 r71.1), .int .i64 j6.2.2.2.1, .slice m134.2.2.1 j6.2.2.2.2.1.length m134.2.2.2.1, .int .i64 j6.2.2.2.2.2.1, .int .i64 j6.2.2.2.2.2.2] 91, grow 184 2 (.slice m134.2.2.1 j6.2.2.2.2.1.length m134.2.2.2.1) j6.2.2.2.2.1.length m134.2.2.2.2]) [0] [1, 2, 3] [0] rfl rfl rfl en32 (c_codec_Reader_Err ((j6.1, j6.2.1)) b1 m134.1 m134.2.1 r129 hr129) (by decide) rfl rfl rfl (bl rfl) (fun ret M' F' hR129 => ?_))
  obtain ⟨rfl, rfl, rfl⟩ := hR129
  refine TrL.v (v_arith rfl rfl rfl ar_eql) rfl rfl (bl rfl) ?_
  refine TrL.v (v_move rfl rfl) rfl rfl (bl rfl) ?_
  rcases ifc H with ⟨h80, H⟩ | ⟨h80, H⟩
  ·refine TrL.cons_yes rfl rfl rfl (bt_dec h80) (OpTr.v (v_load (k := 2) rfl rfl rfl ty91 nofun rfl rfl) rfl (bl rfl) ?_)
   obtain ⟨r130, hr130, H⟩ := bnd H
   refine TrL.cons_yes rfl rfl rfl (bt_dec h80) (op_call0' (vs := [.agg #[.int .i64 (wi64 r68.1), .int .i64 j6.2.2.1, .int .u64 r69.1, .int .u64 r70.1, .int .i64 (wi64 r71.1), .int .i64 j6.2.2.2.1, .slice m134.2.2.1 j6.2.2.2.2.1.length m134.2.2.2.1, .int .i64 j6.2.2.2.2.2.1, .int .i64 j6.2.2.2.2.2.2]]) (cap := []) [2] rfl rfl (bl rfl) rfl rfl en47 (c_conf_Check ((wi64 r68.1, j6.2.2.1, r69.1, r70.1, wi64 r71.1, j6.2.2.2.1, j6.2.2.2.2.1, j6.2.2.2.2.2.1, j6.2.2.2.2.2.2)) m134.2.2.1 m134.2.2.2.1 r130 hr130) rfl (fun ret M' F' hR130 => ?_))
   obtain ⟨rfl, rfl, rfl⟩ := hR130
   refine TrL.cons_yes rfl rfl rfl (bt_dec h80) (OpTr.v (v_arith rfl rfl rfl ar_neq) rfl (bl rfl) ?_)
   refine TrL.v (v_pick_t rfl rfl (bt_dec h80) rfl) rfl rfl (bl rfl) ?_
   refine TrL.nil (qthen_n ?_)
   rcases ifc H with ⟨h81, H⟩ | ⟨h81, H⟩
   ·refine Tr.cond_t rfl (bt_dec h81) ?_
    refine Tr.region ?_
    refine TrL.v (v_move rfl rfl) rfl rfl (bl rfl) ?_
    obtain ⟨r131, hr131, H⟩ := bnd H
    refine TrL.cons rfl (op_callg' (fs := []) (vs := [.pointer (some ⟨b1, 0, none⟩), .int .i64 2]) (cap := []) (Mr := [cells b4 [.int .i64 0, .int .i64 0, .int .u64 0, .int .u64 0, .int .i64 0, .int .i64 0, .slice none 0 0, .int .i64 0, .int .i64 0] 91, cells b5 [.int .i64 (wi64 r68.1), .int .i64 j6.2.2.1, .int .u64 r69.1, .int .u64 r70.1, .int .i64 (wi64 r71.1), .int .i64 j6.2.2.2.1, .slice m134.2.2.1 j6.2.2.2.2.1.length m134.2.2.2.1, .int .i64 j6.2.2.2.2.2.1, .int .i64 j6.2.2.2.2.2.2] 91, grow 184 2 (.slice m134.2.2.1 j6.2.2.2.2.1.length m134.2.2.2.1) j6.2.2.2.2.1.length m134.2.2.2.2]) [0] [1, 2, 3] [3] rfl rfl rfl en72 (c_codec_Reader_Fail (((j6.1, j6.2.1))) ((2 : Int)) b1 m134.1 m134.2.1 r131 hr131) (by decide) rfl rfl rfl (bl rfl) (fun ret M' F' hR131 => ?_))
    obtain ⟨rfl, rfl, rfl⟩ := hR131
    refine TrL.nil (qthen_n ?_)
    refine Tr.seq ?_
    refine Tr.seq ?_
    refine Tr.region ?_
    refine TrL.v (v_move rfl rfl) rfl rfl (bl rfl) ?_
    obtain ⟨r132, hr132, H⟩ := bnd H
    refine TrL.cons rfl (op_callg' (fs := []) (vs := [.pointer (some ⟨b1, 0, none⟩)]) (cap := []) (Mr := [cells b4 [.int .i64 0, .int .i64 0, .int .u64 0, .int .u64 0, .int .i64 0, .int .i64 0, .slice none 0 0, .int .i64 0, .int .i64 0] 91, cells b5 [.int .i64 (wi64 r68.1), .int .i64 j6.2.2.1, .int .u64 r69.1, .int .u64 r70.1, .int .i64 (wi64 r71.1), .int .i64 j6.2.2.2.1, .slice m134.2.2.1 j6.2.2.2.2.1.length m134.2.2.2.1, .int .i64 j6.2.2.2.2.2.1, .int .i64 j6.2.2.2.2.2.2] 91, grow 184 2 (.slice m134.2.2.1 j6.2.2.2.2.1.length m134.2.2.2.1) j6.2.2.2.2.1.length m134.2.2.2.2]) [0] [1, 2, 3] [4] rfl rfl rfl en32 (c_codec_Reader_Err (((((j6.1, j6.2.1))).1, r131)) b1 m134.1 m134.2.1 r132 hr132) (by decide) rfl rfl rfl (bl rfl) (fun ret M' F' hR132 => ?_))
    obtain ⟨rfl, rfl, rfl⟩ := hR132
    refine TrL.v (v_arith rfl rfl rfl ar_neq) rfl rfl (bl rfl) ?_
    refine TrL.nil (qthen_n ?_)
    rcases ifc H with ⟨h82, H⟩ | ⟨h82, H⟩
    ·refine Tr.cond_t rfl (bt_dec h82) ?_
     refine Tr.seq ?_
     refine Tr.region ?_
     refine TrL.v (v_build (vs := []) (out := [.int .i64 0, .int .i64 0, .int .u64 0, .int .u64 0, .int .i64 0, .int .i64 0, .slice none 0 0, .int .i64 0, .int .i64 0]) rfl pl91 ze91 rfl rfl) rfl rfl (bl rfl) ?_
     refine TrL.cons rfl (op_store' (k := 1) (c' := [.int .i64 0, .int .i64 0, .int .u64 0, .int .u64 0, .int .i64 0, .int .i64 0, .slice none 0 0, .int .i64 0, .int .i64 0]) rfl rfl rfl rfl rfl ty91 rfl (Nat.le_of_ble_eq_true rfl) (ones (oc rfl (oc rfl (oc rfl (oc rfl (oc rfl (oc rfl (oc rfl (oc rfl (oc rfl on)))))))))) rfl ?_)
     refine TrL.nil (qthen_n ?_)
     have hz := Option.some.inj H
     subst hz
     refine Tr.ret (qthen_r (ret_r ⟨[(2, .pointer (some ⟨b4, 0, none⟩))], [cells b1 [.slice m134.1 (((((((j6.1, j6.2.1))).1, r131)).1).length) m134.2.1, .int .i64 ((((((j6.1, j6.2.1))).1, r131)).2)] 116, cells b4 [.int .i64 0, .int .i64 0, .int .u64 0, .int .u64 0, .int .i64 0, .int .i64 0, .slice none 0 0, .int .i64 0, .int .i64 0] 91], [slF rp_u64_u64 none 0 (([] : List (Int × Int))), slF (rInt .u8) m134.1 m134.2.1 ((((((j6.1, j6.2.1))).1, r131)).1)], []⟩ [.agg #[.int .i64 0, .int .i64 0, .int .u64 0, .int .u64 0, .int .i64 0, .int .i64 0, .slice none 0 0, .int .i64 0, .int .i64 0]] [cells b1 [.slice m134.1 (((((((j6.1, j6.2.1))).1, r131)).1).length) m134.2.1, .int .i64 ((((((j6.1, j6.2.1))).1, r131)).2)] 116] [cells b4 [.int .i64 0, .int .i64 0, .int .u64 0, .int .u64 0, .int .i64 0, .int .i64 0, .slice none 0 0, .int .i64 0, .int .i64 0] 91] (Imp.re _ [0, 1] [1, 5] (sc rfl sn) (by decide) rfl rfl rfl) rfl rfl ⟨((none, 0, m134.1, m134.2.1)), rfl, rfl, rfl⟩ (.cons (resv_cell (k := 1) rfl rfl ty91 nofun rfl rfl) .nil)))
    ·refine Tr.cond_f rfl (bf_dec h82) ?_
     refine Tr.skip (qthen_n ?_)
     refine Tr.seq ?_
     refine Tr.region ?_
     refine TrL.v (v_load (k := 2) rfl rfl rfl ty91 nofun rfl rfl) rfl rfl (bl rfl) ?_
     refine TrL.cons rfl (op_store' (k := 1) (c' := [.int .i64 (wi64 r68.1), .int .i64 j6.2.2.1, .int .u64 r69.1, .int .u64 r70.1, .int .i64 (wi64 r71.1), .int .i64 j6.2.2.2.1, .slice m134.2.2.1 j6.2.2.2.2.1.length m134.2.2.2.1, .int .i64 j6.2.2.2.2.2.1, .int .i64 j6.2.2.2.2.2.2]) rfl rfl rfl rfl rfl ty91 rfl (Nat.le_of_ble_eq_true rfl) (ones (oc rfl (oc rfl (oc rfl (oc rfl (oc rfl (oc rfl (oc rfl (oc rfl (oc rfl on)))))))))) rfl ?_)
     refine TrL.nil (qthen_n ?_)
     have hz := Option.some.inj H
     subst hz
     refine Tr.ret (ret_r ⟨[(2, .pointer (some ⟨b4, 0, none⟩))], [cells b1 [.slice m134.1 (((((((j6.1, j6.2.1))).1, r131)).1).length) m134.2.1, .int .i64 ((((((j6.1, j6.2.1))).1, r131)).2)] 116, cells b4 [.int .i64 (wi64 r68.1), .int .i64 j6.2.2.1, .int .u64 r69.1, .int .u64 r70.1, .int .i64 (wi64 r71.1), .int .i64 j6.2.2.2.1, .slice m134.2.2.1 j6.2.2.2.2.1.length m134.2.2.2.1, .int .i64 j6.2.2.2.2.2.1, .int .i64 j6.2.2.2.2.2.2] 91], [slF rp_u64_u64 m134.2.2.1 m134.2.2.2.1 j6.2.2.2.2.1, slF (rInt .u8) m134.1 m134.2.1 ((((((j6.1, j6.2.1))).1, r131)).1)], []⟩ [.agg #[.int .i64 (wi64 r68.1), .int .i64 j6.2.2.1, .int .u64 r69.1, .int .u64 r70.1, .int .i64 (wi64 r71.1), .int .i64 j6.2.2.2.1, .slice m134.2.2.1 j6.2.2.2.2.1.length m134.2.2.2.1, .int .i64 j6.2.2.2.2.2.1, .int .i64 j6.2.2.2.2.2.2]] [cells b1 [.slice m134.1 (((((((j6.1, j6.2.1))).1, r131)).1).length) m134.2.1, .int .i64 ((((((j6.1, j6.2.1))).1, r131)).2)] 116] [cells b4 [.int .i64 (wi64 r68.1), .int .i64 j6.2.2.1, .int .u64 r69.1, .int .u64 r70.1, .int .i64 (wi64 r71.1), .int .i64 j6.2.2.2.1, .slice m134.2.2.1 j6.2.2.2.2.1.length m134.2.2.2.1, .int .i64 j6.2.2.2.2.2.1, .int .i64 j6.2.2.2.2.2.2] 91] (Imp.re _ [0, 1] [2, 5] (sc rfl sn) (by decide) rfl rfl rfl) rfl rfl ⟨((m134.2.2.1, m134.2.2.2.1, m134.1, m134.2.1)), rfl, rfl, rfl⟩ (.cons (resv_cell (k := 1) rfl rfl ty91 nofun rfl rfl) .nil))
   ·refine Tr.cond_f rfl (bf_dec h81) ?_
    refine Tr.skip (qthen_n ?_)
    refine Tr.seq ?_
    refine Tr.seq ?_
    refine Tr.region ?_
    refine TrL.v (v_move rfl rfl) rfl rfl (bl rfl) ?_
    obtain ⟨r133, hr133, H⟩ := bnd H
    refine TrL.cons rfl (op_callg' (fs := []) (vs := [.pointer (some ⟨b1, 0, none⟩)]) (cap := []) (Mr := [cells b4 [.int .i64 0, .int .i64 0, .int .u64 0, .int .u64 0, .int .i64 0, .int .i64 0, .slice none 0 0, .int .i64 0, .int .i64 0] 91, cells b5 [.int .i64 (wi64 r68.1), .int .i64 j6.2.2.1, .int .u64 r69.1, .int .u64 r70.1, .int .i64 (wi64 r71.1), .int .i64 j6.2.2.2.1, .slice m134.2.2.1 j6.2.2.2.2.1.length m134.2.2.2.1, .int .i64 j6.2.2.2.2.2.1, .int .i64 j6.2.2.2.2.2.2] 91, grow 184 2 (.slice m134.2.2.1 j6.2.2.2.2.1.length m134.2.2.2.1) j6.2.2.2.2.1.length m134.2.2.2.2]) [0] [1, 2, 3] [3] rfl rfl rfl en32 (c_codec_Reader_Err (((j6.1, j6.2.1))) b1 m134.1 m134.2.1 r133 hr133) (by decide) rfl rfl rfl (bl rfl) (fun ret M' F' hR133 => ?_))
    obtain ⟨rfl, rfl, rfl⟩ := hR133
    refine TrL.v (v_arith rfl rfl rfl ar_neq) rfl rfl (bl rfl) ?_
    refine TrL.nil (qthen_n ?_)
    rcases ifc H with ⟨h83, H⟩ | ⟨h83, H⟩
    ·refine Tr.cond_t rfl (bt_dec h83) ?_
     refine Tr.seq ?_
     refine Tr.region ?_
     refine TrL.v (v_build (vs := []) (out := [.int .i64 0, .int .i64 0, .int .u64 0, .int .u64 0, .int .i64 0, .int .i64 0, .slice none 0 0, .int .i64 0, .int .i64 0]) rfl pl91 ze91 rfl rfl) rfl rfl (bl rfl) ?_
     refine TrL.cons rfl (op_store' (k := 1) (c' := [.int .i64 0, .int .i64 0, .int .u64 0, .int .u64 0, .int .i64 0, .int .i64 0, .slice none 0 0, .int .i64 0, .int .i64 0]) rfl rfl rfl rfl rfl ty91 rfl (Nat.le_of_ble_eq_true rfl) (ones (oc rfl (oc rfl (oc rfl (oc rfl (oc rfl (oc rfl (oc rfl (oc rfl (oc rfl on)))))))))) rfl ?_)
     refine TrL.nil (qthen_n ?_)
     have hz := Option.some.inj H
     subst hz
     refine Tr.ret (qthen_r (ret_r ⟨[(2, .pointer (some ⟨b4, 0, none⟩))], [cells b1 [.slice m134.1 (((((j6.1, j6.2.1))).1).length) m134.2.1, .int .i64 ((((j6.1, j6.2.1))).2)] 116, cells b4 [.int .i64 0, .int .i64 0, .int .u64 0, .int .u64 0, .int .i64 0, .int .i64 0, .slice none 0 0, .int .i64 0, .int .i64 0] 91], [slF rp_u64_u64 none 0 (([] : List (Int × Int))), slF (rInt .u8) m134.1 m134.2.1 ((((j6.1, j6.2.1))).1)], []⟩ [.agg #[.int .i64 0, .int .i64 0, .int .u64 0, .int .u64 0, .int .i64 0, .int .i64 0, .slice none 0 0, .int .i64 0, .int .i64 0]] [cells b1 [.slice m134.1 (((((j6.1, j6.2.1))).1).length) m134.2.1, .int .i64 ((((j6.1, j6.2.1))).2)] 116] [cells b4 [.int .i64 0, .int .i64 0, .int .u64 0, .int .u64 0, .int .i64 0, .int .i64 0, .slice none 0 0, .int .i64 0, .int .i64 0] 91] (Imp.re _ [0, 1] [1, 4] (sc rfl sn) (by decide) rfl rfl rfl) rfl rfl ⟨((none, 0, m134.1, m134.2.1)), rfl, rfl, rfl⟩ (.cons (resv_cell (k := 1) rfl rfl ty91 nofun rfl rfl) .nil)))
    ·refine Tr.cond_f rfl (bf_dec h83) ?_
     refine Tr.skip (qthen_n ?_)
     refine Tr.seq ?_
     refine Tr.region ?_
     refine TrL.v (v_load (k := 2) rfl rfl rfl ty91 nofun rfl rfl) rfl rfl (bl rfl) ?_
     refine TrL.cons rfl (op_store' (k := 1) (c' := [.int .i64 (wi64 r68.1), .int .i64 j6.2.2.1, .int .u64 r69.1, .int .u64 r70.1, .int .i64 (wi64 r71.1), .int .i64 j6.2.2.2.1, .slice m134.2.2.1 j6.2.2.2.2.1.length m134.2.2.2.1, .int .i64 j6.2.2.2.2.2.1, .int .i64 j6.2.2.2.2.2.2]) rfl rfl rfl rfl rfl ty91 rfl (Nat.le_of_ble_eq_true rfl) (ones (oc rfl (oc rfl (oc rfl (oc rfl (oc rfl (oc rfl (oc rfl (oc rfl (oc rfl on)))))))))) rfl ?_)
     refine TrL.nil (qthen_n ?_)
     have hz := Option.some.inj H
     subst hz
     refine Tr.ret (ret_r ⟨[(2, .pointer (some ⟨b4, 0, none⟩))], [cells b1 [.slice m134.1 (((((j6.1, j6.2.1))).1).length) m134.2.1, .int .i64 ((((j6.1, j6.2.1))).2)] 116, cells b4 [.int .i64 (wi64 r68.1), .int .i64 j6.2.2.1, .int .u64 r69.1, .int .u64 r70.1, .int .i64 (wi64 r71.1), .int .i64 j6.2.2.2.1, .slice m134.2.2.1 j6.2.2.2.2.1.length m134.2.2.2.1, .int .i64 j6.2.2.2.2.2.1, .int .i64 j6.2.2.2.2.2.2] 91], [slF rp_u64_u64 m134.2.2.1 m134.2.2.2.1 j6.2.2.2.2.1, slF (rInt .u8) m134.1 m134.2.1 ((((j6.1, j6.2.1))).1)], []⟩ [.agg #[.int .i64 (wi64 r68.1), .int .i64 j6.2.2.1, .int .u64 r69.1, .int .u64 r70.1, .int .i64 (wi64 r71.1), .int .i64 j6.2.2.2.1, .slice m134.2.2.1 j6.2.2.2.2.1.length m134.2.2.2.1, .int .i64 j6.2.2.2.2.2.1, .int .i64 j6.2.2.2.2.2.2]] [cells b1 [.slice m134.1 (((((j6.1, j6.2.1))).1).length) m134.2.1, .int .i64 ((((j6.1, j6.2.1))).2)] 116] [cells b4 [.int .i64 (wi64 r68.1), .int .i64 j6.2.2.1, .int .u64 r69.1, .int .u64 r70.1, .int .i64 (wi64 r71.1), .int .i64 j6.2.2.2.1, .slice m134.2.2.1 j6.2.2.2.2.1.length m134.2.2.2.1, .int .i64 j6.2.2.2.2.2.1, .int .i64 j6.2.2.2.2.2.2] 91] (Imp.re _ [0, 1] [2, 4] (sc rfl sn) (by decide) rfl rfl rfl) rfl rfl ⟨((m134.2.2.1, m134.2.2.2.1, m134.1, m134.2.1)), rfl, rfl, rfl⟩ (.cons (resv_cell (k := 1) rfl rfl ty91 nofun rfl rfl) .nil))
  ·refine TrL.cons_no rfl rfl rfl (gn_t (bf_dec h80)) rfl (bl rfl) ?_
   refine TrL.cons_no rfl rfl rfl (gn_t (bf_dec h80)) rfl (bl rfl) ?_
   refine TrL.cons_no rfl rfl rfl (gn_t (bf_dec h80)) rfl (bl rfl) ?_
   refine TrL.v (v_pick_f rfl rfl (bf_dec h80) rfl) rfl rfl (bl rfl) ?_
   refine TrL.nil (qthen_n ?_)
   refine Tr.cond_f rfl rfl ?_
   refine Tr.skip (qthen_n ?_)
   refine Tr.seq ?_
   refine Tr.seq ?_
   refine Tr.region ?_
   refine TrL.v (v_move rfl rfl) rfl rfl (bl rfl) ?_
   obtain ⟨r134, hr134, H⟩ := bnd H
   refine TrL.cons rfl (op_callg' (fs := []) (vs := [.pointer (some ⟨b1, 0, none⟩)]) (cap := []) (Mr := [cells b4 [.int .i64 0, .int .i64 0, .int .u64 0, .int .u64 0, .int .i64 0, .int .i64 0, .slice none 0 0, .int .i64 0, .int .i64 0] 91, cells b5 [.int .i64 (wi64 r68.1), .int .i64 j6.2.2.1, .int .u64 r69.1, .int .u64 r70.1, .int .i64 (wi64 r71.1), .int .i64 j6.2.2.2.1, .slice m134.2.2.1 j6.2.2.2.2.1.length m134.2.2.2.1, .int .i64 j6.2.2.2.2.2.1, .int .i64 j6.2.2.2.2.2.2] 91, grow 184 2 (.slice m134.2.2.1 j6.2.2.2.2.1.length m134.2.2.2.1) j6.2.2.2.2.1.length m134.2.2.2.2]) [0] [1, 2, 3] [3] rfl rfl rfl en32 (c_codec_Reader_Err (((j6.1, j6.2.1))) b1 m134.1 m134.2.1 r134 hr134) (by decide) rfl rfl rfl (bl rfl) (fun ret M' F' hR134 => ?_))
   obtain ⟨rfl, rfl, rfl⟩ := hR134
   refine TrL.v (v_arith rfl rfl rfl ar_neq) rfl rfl (bl rfl) ?_
   refine TrL.nil (qthen_n ?_)
   rcases ifc H with ⟨h84, H⟩ | ⟨h84, H⟩
   ·refine Tr.cond_t rfl (bt_dec h84) ?_
    refine Tr.seq ?_
    refine Tr.region ?_
    refine TrL.v (v_build (vs := []) (out := [.int .i64 0, .int .i64 0, .int .u64 0, .int .u64 0, .int .i64 0, .int .i64 0, .slice none 0 0, .int .i64 0, .int .i64 0]) rfl pl91 ze91 rfl rfl) rfl rfl (bl rfl) ?_
    refine TrL.cons rfl (op_store' (k := 1) (c' := [.int .i64 0, .int .i64 0, .int .u64 0, .int .u64 0, .int .i64 0, .int .i64 0, .slice none 0 0, .int .i64 0, .int .i64 0]) rfl rfl rfl rfl rfl ty91 rfl (Nat.le_of_ble_eq_true rfl) (ones (oc rfl (oc rfl (oc rfl (oc rfl (oc rfl (oc rfl (oc rfl (oc rfl (oc rfl on)))))))))) rfl ?_)
    refine TrL.nil (qthen_n ?_)
    have hz := Option.some.inj H
    subst hz
    refine Tr.ret (qthen_r (ret_r ⟨[(2, .pointer (some ⟨b4, 0, none⟩))], [cells b1 [.slice m134.1 (((((j6.1, j6.2.1))).1).length) m134.2.1, .int .i64 ((((j6.1, j6.2.1))).2)] 116, cells b4 [.int .i64 0, .int .i64 0, .int .u64 0, .int .u64 0, .int .i64 0, .int .i64 0, .slice none 0 0, .int .i64 0, .int .i64 0] 91], [slF rp_u64_u64 none 0 (([] : List (Int × Int))), slF (rInt .u8) m134.1 m134.2.1 ((((j6.1, j6.2.1))).1)], []⟩ [.agg #[.int .i64 0, .int .i64 0, .int .u64 0, .int .u64 0, .int .i64 0, .int .i64 0, .slice none 0 0, .int .i64 0, .int .i64 0]] [cells b1 [.slice m134.1 (((((j6.1, j6.2.1))).1).length) m134.2.1, .int .i64 ((((j6.1, j6.2.1))).2)] 116] [cells b4 [.int .i64 0, .int .i64 0, .int .u64 0, .int .u64 0, .int .i64 0, .int .i64 0, .slice none 0 0, .int .i64 0, .int .i64 0] 91] (Imp.re _ [0, 1] [1, 4] (sc rfl sn) (by decide) rfl rfl rfl) rfl rfl ⟨((none, 0, m134.1, m134.2.1)), rfl, rfl, rfl⟩ (.cons (resv_cell (k := 1) rfl rfl ty91 nofun rfl rfl) .nil)))
   ·refine Tr.cond_f rfl (bf_dec h84) ?_
    refine Tr.skip (qthen_n ?_)
    refine Tr.seq ?_
    refine Tr.region ?_
    refine TrL.v (v_load (k := 2) rfl rfl rfl ty91 nofun rfl rfl) rfl rfl (bl rfl) ?_
    refine TrL.cons rfl (op_store' (k := 1) (c' := [.int .i64 (wi64 r68.1), .int .i64 j6.2.2.1, .int .u64 r69.1, .int .u64 r70.1, .int .i64 (wi64 r71.1), .int .i64 j6.2.2.2.1, .slice m134.2.2.1 j6.2.2.2.2.1.length m134.2.2.2.1, .int .i64 j6.2.2.2.2.2.1, .int .i64 j6.2.2.2.2.2.2]) rfl rfl rfl rfl rfl ty91 rfl (Nat.le_of_ble_eq_true rfl) (ones (oc rfl (oc rfl (oc rfl (oc rfl (oc rfl (oc rfl (oc rfl (oc rfl (oc rfl on)))))))))) rfl ?_)
    refine TrL.nil (qthen_n ?_)
    have hz := Option.some.inj H
    subst hz
    refine Tr.ret (ret_r ⟨[(2, .pointer (some ⟨b4, 0, none⟩))], [cells b1 [.slice m134.1 (((((j6.1, j6.2.1))).1).length) m134.2.1, .int .i64 ((((j6.1, j6.2.1))).2)] 116, cells b4 [.int .i64 (wi64 r68.1), .int .i64 j6.2.2.1, .int .u64 r69.1, .int .u64 r70.1, .int .i64 (wi64 r71.1), .int .i64 j6.2.2.2.1, .slice m134.2.2.1 j6.2.2.2.2.1.length m134.2.2.2.1, .int .i64 j6.2.2.2.2.2.1, .int .i64 j6.2.2.2.2.2.2] 91], [slF rp_u64_u64 m134.2.2.1 m134.2.2.2.1 j6.2.2.2.2.1, slF (rInt .u8) m134.1 m134.2.1 ((((j6.1, j6.2.1))).1)], []⟩ [.agg #[.int .i64 (wi64 r68.1), .int .i64 j6.2.2.1, .int .u64 r69.1, .int .u64 r70.1, .int .i64 (wi64 r71.1), .int .i64 j6.2.2.2.1, .slice m134.2.2.1 j6.2.2.2.2.1.length m134.2.2.2.1, .int .i64 j6.2.2.2.2.2.1, .int .i64 j6.2.2.2.2.2.2]] [cells b1 [.slice m134.1 (((((j6.1, j6.2.1))).1).length) m134.2.1, .int .i64 ((((j6.1, j6.2.1))).2)] 116] [cells b4 [.int .i64 (wi64 r68.1), .int .i64 j6.2.2.1, .int .u64 r69.1, .int .u64 r70.1, .int .i64 (wi64 r71.1), .int .i64 j6.2.2.2.1, .slice m134.2.2.1 j6.2.2.2.2.1.length m134.2.2.2.1, .int .i64 j6.2.2.2.2.2.1, .int .i64 j6.2.2.2.2.2.2] 91] (Imp.re _ [0, 1] [2, 4] (sc rfl sn) (by decide) rfl rfl rfl) rfl rfl ⟨((m134.2.2.1, m134.2.2.2.1, m134.1, m134.2.1)), rfl, rfl, rfl⟩ (.cons (resv_cell (k := 1) rfl rfl ty91 nofun rfl rfl) .nil))
end Go.Proofs.Ytbeknohemgjfbaa.W
