import Derived.Test.YtconfbgcjkjnkaaDoorLfK
import Derived.Test.YtconfbgcjkjnkaaDoorCode
namespace Go.Proofs.YtconfbgcjkjnkaaDoor
open Go.RowKit
open Go.Av
open Go.Lc
set_option maxRecDepth 100000
set_option linter.unusedSimpArgs false
set_option linter.unusedVariables false
set_option maxHeartbeats 4000000
def kp5 : Keep := fun i => if i = 1000018 then ⟨[1, 6, 7, 8, 9, 11, 12, 58, 59, 60], [7, 22, 24, 37, 100024, 100037], []⟩ else if i = 14 then ⟨[1, 6, 7, 8, 9, 11, 12, 58, 59, 60], [7, 22, 24, 37, 100024, 100037], []⟩ else if i = 22 then ⟨[7, 110, 111, 112], [7, 24, 37, 100024, 100037], []⟩ else ⟨[], [], []⟩
theorem w5 {T : Tab} (hO : T.own = fun _ => []) (hT8 : T 8 = some K8.G) (hT9 : T 9 = some K9.G) (hT10 : T 10 = some K10.G) (hT13 : T 13 = some K13.G) (hT15 : T 15 = some K15.G) (hT16 : T 16 = some K16.G) (hT17 : T 17 = some K17.G) (hT20 : T 20 = some K20.G) (hT21 : T 21 = some K21.G) (a0 : (List Int)) (a1 : Int) (x : Bool) (hr : Llaw36_ReplaceEarns a0 a1 = some x) : ∃ kp fl n, execFn tt T G kp fl n Tryd.f5 (E5 (a0, a1)) = some (R5 (a0, a1) x) := by
 simp only [E5, R5]
 refine fnE (kp := kp5) (w := false) body5 (by simp) ?_
 unfold c5
 rw [Tryd.ntmps5]
 unfold Llaw36_ReplaceEarns at hr
 refine ee_seq_reg rfl (by simp []; rfl) ?_
 refine ee_assoc ?_
 obtain ⟨y163, hy163, hr⟩ := bs hr
 have ehy163 := G8_eq hy163
 simp only [K8, nf, nfs] at ehy163
 refine ee_seq_reg rfl (by simp [hO, hT8, ehy163]; rfl) ?_
 by_cases c164 : y163 = true
 ·skip
  rw [if_neg (not_not_intro c164)] at hr
  refine ee_seq_condF (by simp [bV, c164]) ?_
  refine ee_seq_skip ?_
  obtain ⟨y165, hy165, hr⟩ := bs hr
  have ehy165 := G9_eq hy165
  simp only [K9, nf, nfs] at ehy165
  refine ee_seq_reg rfl (by simp [hO, hT9, ehy165, c164]; rfl) ?_
  obtain ⟨y166, hy166, hr⟩ := bs hr
  have ehy166 := G15_eq hy166
  simp only [K15, nf, nfs] at ehy166
  refine ee_seq_reg rfl (by simp [hO, hT15, ehy166, c164]; rfl) ?_
  obtain ⟨y167, hy167, hr⟩ := bs hr
  have ehy167 := G10_eq hy167
  simp only [K10, nf, nfs] at ehy167
  refine ee_seq_reg rfl (by simp [hO, hT10, ehy167, c164]; rfl) ?_
  refine ee_assoc ?_
  refine ee_seq_reg rfl (by simp [c164]; rfl) ?_
  by_cases c173 : 0 < (y166.1.length : Int)
  ·skip
   have c173N := c173
   try simp at c173N
   first | have c173M : (_ = _) = True := eq_true c173N | have c173M := c173N
   rw [if_pos c173] at hr
   refine ee_seq_condT (by simp [bV, c164, c173, c173M]) ?_
   obtain ⟨y174, hy174, hr⟩ := bs hr
   have ehy174 := G17_eq hy174
   simp only [K17, nf, nfs] at ehy174
   obtain ⟨j175, hj175, hr⟩ := bs hr
   obtain ⟨j175a, j175b, j175c⟩ := inA_some hj175
   obtain ⟨x176, hx176, hr⟩ := bs hr
   have ghx176 := getE_of hx176
   obtain ⟨y177, hy177, hr⟩ := bs hr
   have ehy177 := G16_eq hy177
   simp only [K16, nf, nfs] at ehy177
   refine ee_seq_reg rfl (by simp [hO, hT17, ehy174, j175a, j175b, j175c, hx176, ghx176, hT16, ehy177, c164, c173, c173M] <;> rfl) ?_
   unfold Llaw36_ReplaceEarns_k1 at hr
   refine ee_seq_reg rfl (by simp [c164, c173, c173M] <;> rfl) ?_
   obtain ⟨y178, hy178, hr⟩ := bs hr
   have ehy178 := G20_eq hy178
   simp only [K20, nf, nfs] at ehy178
   refine ee_seq_reg rfl (by simp [hO, hT20, ehy178, c164, c173, c173M] <;> rfl) ?_
   refine ee_assoc ?_
   refine ee_seq_reg rfl (by simp [c164, c173, c173M] <;> rfl) ?_
   by_cases c179 : y178.2.2 = 0
   ·skip
    rw [if_neg (not_not_intro c179)] at hr
    refine ee_seq_condF (by simp [bV, c164, c173, c173M, eq_true c179]) ?_
    refine ee_seq_skip ?_
    refine ee_seq_reg rfl (by simp [c164, c173, c173M, eq_true c179] <;> rfl) ?_
    refine ee_assoc ?_
    refine ee_seq_reg rfl (by simp [c164, c173, c173M, eq_true c179] <;> rfl) ?_
    refine ee_seq_block ?_
    refine ee_loop (kq := ⟨[1, 6, 7, 8, 9, 11, 12, 58, 59, 60], [7, 22, 24, 37, 100024, 100037], []⟩) (H := fun (s : Int × Int × Int) => match s with | (p27, p28, p29) => (⟨(und 1 ++ ([.one (.v (.int .i64 ((a1).tmod 9000)))] ++ (und 4 ++ ([.one (.ms 22 0 0 (y166.1.length) 5), .ptr 7 0 0 0 4, .one (.slice .no (List.map eapi_Entry y178.1)), .one (.slice .no (List.map (arC .u8) y178.2.1))] ++ (und 1 ++ ([.one (.v (.int .i64 p27)), .one (.v (.int .i64 p28))] ++ (und 45 ++ ([.one (.ms 22 0 0 (y166.1.length) 5), .one (.v (.int .i64 (y166.1.length : Int))), .one (.v (.int .i64 p29))] ++ (und 60)))))))) : List PV), ([(7, ⟨0, 4, [[.v (.int .u32 y177.1.1), .ms 37 0 0 (y177.1.2.1.length) 35, .ms 100037 0 0 (y177.1.2.2.1.length) 2, .v (.int .u32 y177.1.2.2.2)]], false, false⟩), (22, ⟨0, 5, List.map eapi_Entry y166.1, true, true⟩), (24, ⟨0, 35, List.map eapi_Input y167.1.2.1, false, true⟩), (37, ⟨0, 35, List.map eapi_Input y177.1.2.1, true, true⟩), (100024, ⟨0, 2, List.map eapi_Output y167.1.2.2.1, false, true⟩), (100037, ⟨0, 2, List.map eapi_Output y177.1.2.2.1, true, true⟩)] : Boxes)⟩ : ASt)) (by kernel_rfl) hr (by simp [und, List.replicate, c164, c173, c173M, eq_true c179]) ?_
    rintro ⟨p27, p28, p29⟩ x189r hr189
    simp only [Llaw36_ReplaceEarns_s1] at hr189
    unfold b5_1
    simp only [und, List.replicate, List.cons_append, List.nil_append]
    refine ee_seq_reg rfl (by simp [c164, c173, c173M, eq_true c179] <;> rfl) ?_
    by_cases c190 : p29 < (y166.1.length : Int)
    ·skip
     have c190N := c190
     try simp at c190N
     first | have c190M : (_ = _) = True := eq_true c190N | have c190M := c190N
     rw [if_pos] at hr189
     rotate_left
     ·simp [c164, c173, c173M, eq_true c179, c190, c190M]
     refine ee_seq_condT (by simp [bV, c164, c173, c173M, eq_true c179, c190, c190M]) ?_
     refine ee_seq_skip ?_
     refine ee_seq_block ?_
     obtain ⟨j191, hj191, hr189⟩ := bs hr189
     obtain ⟨j191a, j191b, j191c⟩ := inA_some hj191
     obtain ⟨x192, hx192, hr189⟩ := bs hr189
     have ghx192 := getE_of hx192
     refine ee_seq_reg rfl (by simp [j191a, j191b, j191c, hx192, ghx192, c164, c173, c173M, eq_true c179, c190, c190M] <;> rfl) ?_
     obtain ⟨y193, hy193, hr189⟩ := bs hr189
     have ehy193 := G13_eq hy193
     simp only [K13, nf, nfs] at ehy193
     refine ee_seq_reg rfl (by simp [hO, hT13, ehy193, c164, c173, c173M, eq_true c179, c190, c190M] <;> rfl) ?_
     refine ee_J hr189 (.normal) (fun (s : Int × Int) => match s with | (p52, p53) => (⟨(und 1 ++ ([.one (.v (.int .i64 ((a1).tmod 9000)))] ++ (und 4 ++ ([.one (.ms 22 0 0 (y166.1.length) 5), .ptr 7 0 0 0 4, .one (.slice .no (List.map eapi_Entry y178.1)), .one (.slice .no (List.map (arC .u8) y178.2.1))] ++ (und 1 ++ ([.one (.v (.int .i64 p52)), .one (.v (.int .i64 p53))] ++ (und 45 ++ ([.one (.ms 22 0 0 (y166.1.length) 5), .one (.v (.int .i64 (y166.1.length : Int))), .one (.v (.int .i64 p29))] ++ (und 60)))))))) : List PV), ([(7, ⟨0, 4, [[.v (.int .u32 y177.1.1), .ms 37 0 0 (y177.1.2.1.length) 35, .ms 100037 0 0 (y177.1.2.2.1.length) 2, .v (.int .u32 y177.1.2.2.2)]], false, false⟩), (22, ⟨0, 5, List.map eapi_Entry y166.1, true, true⟩), (24, ⟨0, 35, List.map eapi_Input y167.1.2.1, false, true⟩), (37, ⟨0, 35, List.map eapi_Input y177.1.2.1, true, true⟩), (100024, ⟨0, 2, List.map eapi_Output y167.1.2.2.1, false, true⟩), (100037, ⟨0, 2, List.map eapi_Output y177.1.2.2.1, true, true⟩)] : Boxes)⟩ : ASt)) (fun (s : Int × Int) => match s with | (p52, p53) => Llaw36_ReplaceEarns_k4 p29 p52 p53) ?_ ?_
     ·skip
      rintro ⟨p52, p53⟩ hk195
      change Llaw36_ReplaceEarns_k4 p29 p52 p53 = _ at hk195
      simp only [pq, reduceCtorEq]
      simp only [und, List.replicate, List.cons_append, List.nil_append]
      unfold Llaw36_ReplaceEarns_k4 at hk195
      refine ee_regJ rfl (kq := ⟨[1, 6, 7, 8, 9, 11, 12, 58, 59, 60], [7, 22, 24, 37, 100024, 100037], []⟩) rfl (by simp [joinSt, c164, c173, c173M, eq_true c179, c190, c190M]; rfl) (by simp [c164, c173, c173M, eq_true c179, c190, c190M] <;> rfl) ?_
      obtain rfl := Option.some.inj hk195
      simp only [pq, reduceCtorEq]
      simp [und, List.replicate, Nat.add_assoc, c164, c173, c173M, eq_true c179, c190, c190M]
     ·skip
      intro J195
      simp only [pq, reduceCtorEq] at J195
      by_cases c196 : y193 = true
      ·skip
       rw [if_pos c196] at hr189
       refine ee_condT (by simp [bV, c164, c173, c173M, eq_true c179, c190, c190M, c196]) ?_
       refine ee_reg rfl (by simp [c164, c173, c173M, eq_true c179, c190, c190M, c196] <;> rfl) ?_
       simp only [pq, reduceCtorEq]
       exact ee_join (key := 1000018) (kq := ⟨[1, 6, 7, 8, 9, 11, 12, 58, 59, 60], [7, 22, 24, 37, 100024, 100037], []⟩) rfl rfl rfl (by simp [und, List.replicate, c164, c173, c173M, eq_true c179, c190, c190M, c196]) (J195 (IntKind.i64.wrap (p27 + x192.2), IntKind.i64.wrap (p28 + 1)) hr189)
      ·skip
       rw [if_neg c196] at hr189
       refine ee_condF (by simp [bV, c164, c173, c173M, eq_true c179, c190, c190M, c196]) ?_
       refine ee_skip ?_
       simp only [pq, reduceCtorEq]
       exact ee_join (key := 1000018) (kq := ⟨[1, 6, 7, 8, 9, 11, 12, 58, 59, 60], [7, 22, 24, 37, 100024, 100037], []⟩) rfl rfl rfl (by simp [und, List.replicate, c164, c173, c173M, eq_true c179, c190, c190M, c196]) (J195 (p27, p28) hr189)
    ·skip
     have c190N := c190
     try simp at c190N
     first | have c190M : (_ = _) = True := eq_true c190N | have c190M := c190N
     rw [if_neg] at hr189
     rotate_left
     ·simp [c164, c173, c173M, eq_true c179, c190, c190M]
     refine ee_seq_condF (by simp [bV, c164, c173, c173M, eq_true c179, c190, c190M]) ?_
     refine ee_seq_exit ?_
     obtain ⟨r197, q197, rfl⟩ := ms hr189
     simp only [pq, reduceCtorEq]
     rintro rfl
     try simp only [pq, reduceCtorEq]
     unfold Llaw36_ReplaceEarns_k2 at q197
     refine ee_assoc ?_
     by_cases c198 : (a1).tmod 9000 ≤ p27
     ·skip
      rw [if_pos] at q197
      rotate_left
      ·simp [c164, c173, c173M, eq_true c179, c190, c190M, c198]
      obtain ⟨z199, hz199, q197⟩ := bs q197
      obtain rfl := Option.some.inj hz199
      refine ee_seq_draw rfl (by simp [c164, c173, c173M, eq_true c179, c190, c190M, c198]; first | exact ⟨rfl, rfl⟩ | rfl) (by kernel_rfl) ?_
      rw [if_pos] at q197
      rotate_left
      ·simp [c164, c173, c173M, eq_true c179, c190, c190M, c198]
      refine ee_seq_condT (by simp [bV, c164, c173, c173M, eq_true c179, c190, c190M, c198]) ?_
      refine ee_assoc ?_
      refine ee_seq_reg rfl (by simp [c164, c173, c173M, eq_true c179, c190, c190M, c198] <;> rfl) ?_
      refine ee_seq_ret ?_
      obtain rfl := Option.some.inj q197
      simp [FinQ, c164, c173, c173M, eq_true c179, c190, c190M, c198, c173N, c190N]
     ·skip
      by_cases c200 : (y178.2.1.length : Int) = p28
      ·skip
       have c200N := c200
       try simp at c200N
       by_cases c201 : (y178.1.length : Int) = IntKind.i64.wrap ((IntKind.i64.wrap ((y166.1.length : Int) - p28)) + 1)
       ·skip
        have c201N := c201
        try simp at c201N
        rw [if_neg] at q197
        rotate_left
        ·simp [c164, c173, c173M, eq_true c179, c190, c190M, c198, eq_true c200, eq_true c200N, eq_true c201, eq_true c201N]
        obtain ⟨z202, hz202, q197⟩ := bs q197
        obtain ⟨x203, hx203, hz202⟩ := bs hz202
        obtain ⟨hx203a, hx203b⟩ := idx_some hx203
        have hx203c := getE_of hx203b
        obtain ⟨y204, hy204, hz202⟩ := bs hz202
        have ehy204 := G21_eq hy204
        simp only [K21, nf, nfs] at ehy204
        obtain rfl := Option.some.inj hz202
        refine ee_seq_draw rfl (by simp [hx203a, hx203b, hx203c, hO, hT21, ehy204, c164, c173, c173M, eq_true c179, c190, c190M, c198, eq_true c200, eq_true c200N, eq_true c201, eq_true c201N]; first | exact ⟨rfl, rfl⟩ | rfl) (by kernel_rfl) ?_
        by_cases c205 : y204 = true
        ·skip
         rw [if_neg] at q197
         rotate_left
         ·simp [c164, c173, c173M, eq_true c179, c190, c190M, c198, eq_true c200, eq_true c200N, eq_true c201, eq_true c201N, c205]
         refine ee_seq_condF (by simp [bV, c164, c173, c173M, eq_true c179, c190, c190M, c198, eq_true c200, eq_true c200N, eq_true c201, eq_true c201N, c205]) ?_
         refine ee_seq_skip ?_
         refine ee_assoc ?_
         obtain ⟨_, u206, q197⟩ := bs q197
         obtain ⟨u206_0, u206_1⟩ := chk_some u206
         have sf207 : (IntKind.i64.wrap ((y178.1.length : Int) - 1)).toNat ≤ y178.1.length := by omega
         have sf208 : 0 ≤ IntKind.i64.wrap ((y178.1.length : Int) - 1) := by omega
         refine ee_seq_reg rfl (by simp [u206_0, u206_1, sf207, sf208, c164, c173, c173M, eq_true c179, c190, c190M, c198, eq_true c200, eq_true c200N, eq_true c201, eq_true c201N, c205] <;> rfl) ?_
         refine ee_seq_block ?_
         refine ee_loop (kq := ⟨[7, 110, 111, 112], [7, 24, 37, 100024, 100037], []⟩) (H := fun (s : Int) => match s with | p44 => (⟨(und 7 ++ ([.ptr 7 0 0 0 4] ++ (und 102 ++ ([.one (.slice .no (List.map eapi_Entry ((y178.1).take ((IntKind.i64.wrap ((y178.1.length : Int) - 1)).toNat)))), .one (.v (.int .i64 (((y178.1).take ((IntKind.i64.wrap ((y178.1.length : Int) - 1)).toNat)).length : Int))), .one (.v (.int .i64 p44))] ++ (und 8)))) : List PV), ([(7, ⟨0, 4, [[.v (.int .u32 y177.1.1), .ms 37 0 0 (y177.1.2.1.length) 35, .ms 100037 0 0 (y177.1.2.2.1.length) 2, .v (.int .u32 y177.1.2.2.2)]], false, false⟩), (24, ⟨0, 35, List.map eapi_Input y167.1.2.1, false, true⟩), (37, ⟨0, 35, List.map eapi_Input y177.1.2.1, true, true⟩), (100024, ⟨0, 2, List.map eapi_Output y167.1.2.2.1, false, true⟩), (100037, ⟨0, 2, List.map eapi_Output y177.1.2.2.1, true, true⟩)] : Boxes)⟩ : ASt)) (by kernel_rfl) q197 (by simp [und, List.replicate, sf207, sf208, c164, c173, c173M, eq_true c179, c190, c190M, c198, eq_true c200, eq_true c200N, eq_true c201, eq_true c201N, c205]) ?_
         rintro p44 x215r hr215
         simp only [Llaw36_ReplaceEarns_s2] at hr215
         unfold b5_2
         simp only [und, List.replicate, List.cons_append, List.nil_append]
         refine ee_seq_reg rfl (by simp [c164, c173, c173M, eq_true c179, c190, c190M, c198, eq_true c200, eq_true c200N, eq_true c201, eq_true c201N, c205] <;> rfl) ?_
         by_cases c216 : p44 < (((y178.1).take ((IntKind.i64.wrap ((y178.1.length : Int) - 1)).toNat)).length : Int)
         ·skip
          have c216N := c216
          try simp at c216N
          first | have c216M : (_ = _) = True := eq_true c216N | have c216M := c216N
          rw [if_pos] at hr215
          rotate_left
          ·simp [c164, c173, c173M, eq_true c179, c190, c190M, c198, eq_true c200, eq_true c200N, eq_true c201, eq_true c201N, c205, c216, c216M]
          refine ee_seq_condT (by simp [bV, c164, c173, c173M, eq_true c179, c190, c190M, c198, eq_true c200, eq_true c200N, eq_true c201, eq_true c201N, c205, c216, c216M]) ?_
          refine ee_seq_skip ?_
          refine ee_seq_block ?_
          obtain ⟨x217, hx217, hr215⟩ := bs hr215
          obtain ⟨hx217a, hx217b⟩ := idx_some hx217
          have hx217c := getE_of hx217b
          have hx217t := take_get hx217b
          have hx217u := getE_of hx217t
          refine ee_seq_reg rfl (by simp [hx217a, hx217b, hx217c, hx217t, hx217u, c164, c173, c173M, eq_true c179, c190, c190M, c198, eq_true c200, eq_true c200N, eq_true c201, eq_true c201N, c205, c216, c216M] <;> rfl) ?_
          obtain ⟨y218, hy218, hr215⟩ := bs hr215
          have ehy218 := G13_eq hy218
          simp only [K13, nf, nfs] at ehy218
          refine ee_seq_reg rfl (by simp [hO, hT13, ehy218, c164, c173, c173M, eq_true c179, c190, c190M, c198, eq_true c200, eq_true c200N, eq_true c201, eq_true c201N, c205, c216, c216M] <;> rfl) ?_
          by_cases c219 : y218 = true
          ·skip
           rw [if_pos c219] at hr215
           refine ee_condT (by simp [bV, c164, c173, c173M, eq_true c179, c190, c190M, c198, eq_true c200, eq_true c200N, eq_true c201, eq_true c201N, c205, c216, c216M, c219]) ?_
           refine ee_seq_reg rfl (by simp [c164, c173, c173M, eq_true c179, c190, c190M, c198, eq_true c200, eq_true c200N, eq_true c201, eq_true c201N, c205, c216, c216M, c219] <;> rfl) ?_
           refine ee_ret ?_
           obtain rfl := Option.some.inj hr215
           simp only [pq, reduceCtorEq]
           rintro rfl
           simp [FinQ, c164, c173, c173M, eq_true c179, c190, c190M, c198, eq_true c200, eq_true c200N, eq_true c201, eq_true c201N, c205, c216, c216M, c219, c173N, c190N, c216N]
          ·skip
           rw [if_neg c219] at hr215
           refine ee_condF (by simp [bV, c164, c173, c173M, eq_true c179, c190, c190M, c198, eq_true c200, eq_true c200N, eq_true c201, eq_true c201N, c205, c216, c216M, c219]) ?_
           refine ee_skip ?_
           simp only [pq, reduceCtorEq]
           refine ee_reg rfl (by simp [c164, c173, c173M, eq_true c179, c190, c190M, c198, eq_true c200, eq_true c200N, eq_true c201, eq_true c201N, c205, c216, c216M, c219] <;> rfl) ?_
           obtain rfl := Option.some.inj hr215
           simp only [pq, reduceCtorEq]
           simp [und, List.replicate, Nat.add_assoc, c164, c173, c173M, eq_true c179, c190, c190M, c198, eq_true c200, eq_true c200N, eq_true c201, eq_true c201N, c205, c216, c216M, c219]
         ·skip
          have c216N := c216
          try simp at c216N
          first | have c216M : (_ = _) = True := eq_true c216N | have c216M := c216N
          rw [if_neg] at hr215
          rotate_left
          ·simp [c164, c173, c173M, eq_true c179, c190, c190M, c198, eq_true c200, eq_true c200N, eq_true c201, eq_true c201N, c205, c216, c216M]
          refine ee_seq_condF (by simp [bV, c164, c173, c173M, eq_true c179, c190, c190M, c198, eq_true c200, eq_true c200N, eq_true c201, eq_true c201N, c205, c216, c216M]) ?_
          refine ee_seq_exit ?_
          obtain ⟨r220, q220, rfl⟩ := ms hr215
          simp only [pq, reduceCtorEq]
          rintro rfl
          try simp only [pq, reduceCtorEq]
          unfold Llaw36_ReplaceEarns_k3 at q220
          refine ee_seq_reg rfl (by simp [c164, c173, c173M, eq_true c179, c190, c190M, c198, eq_true c200, eq_true c200N, eq_true c201, eq_true c201N, c205, c216, c216M] <;> rfl) ?_
          refine ee_ret ?_
          obtain rfl := Option.some.inj q220
          simp [FinQ, c164, c173, c173M, eq_true c179, c190, c190M, c198, eq_true c200, eq_true c200N, eq_true c201, eq_true c201N, c205, c216, c216M, c173N, c190N, c216N]
        ·skip
         rw [if_pos] at q197
         rotate_left
         ·simp [c164, c173, c173M, eq_true c179, c190, c190M, c198, eq_true c200, eq_true c200N, eq_true c201, eq_true c201N, c205]
         refine ee_seq_condT (by simp [bV, c164, c173, c173M, eq_true c179, c190, c190M, c198, eq_true c200, eq_true c200N, eq_true c201, eq_true c201N, c205]) ?_
         refine ee_assoc ?_
         refine ee_seq_reg rfl (by simp [c164, c173, c173M, eq_true c179, c190, c190M, c198, eq_true c200, eq_true c200N, eq_true c201, eq_true c201N, c205] <;> rfl) ?_
         refine ee_seq_ret ?_
         obtain rfl := Option.some.inj q197
         simp [FinQ, c164, c173, c173M, eq_true c179, c190, c190M, c198, eq_true c200, eq_true c200N, eq_true c201, eq_true c201N, c205, c173N, c190N]
       ·skip
        have c201N := c201
        try simp at c201N
        first | have c201M : (_ = _) = True := eq_true c201N | have c201M := c201N
        rw [if_pos] at q197
        rotate_left
        ·simp [c164, c173, c173M, eq_true c179, c190, c190M, c198, eq_true c200, eq_true c200N, c201, c201M]
        obtain ⟨z221, hz221, q197⟩ := bs q197
        obtain rfl := Option.some.inj hz221
        refine ee_seq_draw rfl (by simp [c164, c173, c173M, eq_true c179, c190, c190M, c198, eq_true c200, eq_true c200N, c201, c201M]; first | exact ⟨rfl, rfl⟩ | rfl) (by kernel_rfl) ?_
        rw [if_pos] at q197
        rotate_left
        ·simp [c164, c173, c173M, eq_true c179, c190, c190M, c198, eq_true c200, eq_true c200N, c201, c201M]
        refine ee_seq_condT (by simp [bV, c164, c173, c173M, eq_true c179, c190, c190M, c198, eq_true c200, eq_true c200N, c201, c201M]) ?_
        refine ee_assoc ?_
        refine ee_seq_reg rfl (by simp [c164, c173, c173M, eq_true c179, c190, c190M, c198, eq_true c200, eq_true c200N, c201, c201M] <;> rfl) ?_
        refine ee_seq_ret ?_
        obtain rfl := Option.some.inj q197
        simp [FinQ, c164, c173, c173M, eq_true c179, c190, c190M, c198, eq_true c200, eq_true c200N, c201, c201M, c173N, c190N, c201N]
      ·skip
       have c200N := c200
       try simp at c200N
       first | have c200M : (_ = _) = True := eq_true c200N | have c200M := c200N
       rw [if_pos] at q197
       rotate_left
       ·simp [c164, c173, c173M, eq_true c179, c190, c190M, c198, c200, c200M]
       obtain ⟨z222, hz222, q197⟩ := bs q197
       obtain rfl := Option.some.inj hz222
       refine ee_seq_draw rfl (by simp [c164, c173, c173M, eq_true c179, c190, c190M, c198, c200, c200M]; first | exact ⟨rfl, rfl⟩ | rfl) (by kernel_rfl) ?_
       rw [if_pos] at q197
       rotate_left
       ·simp [c164, c173, c173M, eq_true c179, c190, c190M, c198, c200, c200M]
       refine ee_seq_condT (by simp [bV, c164, c173, c173M, eq_true c179, c190, c190M, c198, c200, c200M]) ?_
       refine ee_assoc ?_
       refine ee_seq_reg rfl (by simp [c164, c173, c173M, eq_true c179, c190, c190M, c198, c200, c200M] <;> rfl) ?_
       refine ee_seq_ret ?_
       obtain rfl := Option.some.inj q197
       simp [FinQ, c164, c173, c173M, eq_true c179, c190, c190M, c198, c200, c200M, c173N, c190N, c200N]
   ·skip
    rw [if_pos c179] at hr
    refine ee_seq_condT (by simp [bV, c164, c173, c173M, c179]) ?_
    refine ee_assoc ?_
    by_cases c223 : (y178.1.length : Int) = 0
    ·skip
     have c223N := c223
     try simp at c223N
     refine ee_seq_reg rfl (by simp [c164, c173, c173M, c179, eq_true c223, eq_true c223N] <;> rfl) ?_
     refine ee_seq_ret ?_
     obtain rfl := Option.some.inj hr
     simp [FinQ, c164, c173, c173M, c179, eq_true c223, eq_true c223N, c173N]
    ·skip
     have c223N := c223
     try simp at c223N
     first | have c223M : (_ = _) = True := eq_true c223N | have c223M := c223N
     refine ee_seq_reg rfl (by simp [c164, c173, c173M, c179, c223, c223M] <;> rfl) ?_
     refine ee_seq_ret ?_
     obtain rfl := Option.some.inj hr
     simp [FinQ, c164, c173, c173M, c179, c223, c223M, c173N, c223N]
  ·skip
   have c173N := c173
   try simp at c173N
   first | have c173M : (_ = _) = True := eq_true c173N | have c173M := c173N
   have c173L : ¬ 0 < y166.1.length := by omega
   rw [if_neg c173] at hr
   refine ee_seq_condF (by simp [bV, c164, c173, c173M, c173L]) ?_
   refine ee_seq_skip ?_
   unfold Llaw36_ReplaceEarns_k1 at hr
   refine ee_seq_reg rfl (by simp [c164, c173, c173M, c173L] <;> rfl) ?_
   obtain ⟨y224, hy224, hr⟩ := bs hr
   have ehy224 := G20_eq hy224
   simp only [K20, nf, nfs] at ehy224
   try simp only [show y166.1 = [] from by simpa using c173, List.map_nil] at ehy224
   refine ee_seq_reg rfl (by simp [hO, hT20, ehy224, c164, c173, c173M, c173L] <;> rfl) ?_
   refine ee_assoc ?_
   refine ee_seq_reg rfl (by simp [c164, c173, c173M, c173L] <;> rfl) ?_
   by_cases c225 : y224.2.2 = 0
   ·skip
    rw [if_neg (not_not_intro c225)] at hr
    refine ee_seq_condF (by simp [bV, c164, c173, c173M, c173L, eq_true c225]) ?_
    refine ee_seq_skip ?_
    refine ee_seq_reg rfl (by simp [c164, c173, c173M, c173L, eq_true c225] <;> rfl) ?_
    refine ee_assoc ?_
    refine ee_seq_reg rfl (by simp [c164, c173, c173M, c173L, eq_true c225] <;> rfl) ?_
    refine ee_seq_block ?_
    refine ee_loop (kq := ⟨[1, 6, 7, 8, 9, 11, 12, 58, 59, 60], [7, 22, 24, 37, 100024, 100037], []⟩) (H := fun (s : Int × Int × Int) => match s with | (p27, p28, p29) => (⟨(und 1 ++ ([.one (.v (.int .i64 ((a1).tmod 9000)))] ++ (und 4 ++ ([.one (.ms 22 0 0 (y166.1.length) 5), .ptr 7 0 0 0 4, .one (.slice .no (List.map eapi_Entry y224.1)), .one (.slice .no (List.map (arC .u8) y224.2.1))] ++ (und 1 ++ ([.one (.v (.int .i64 p27)), .one (.v (.int .i64 p28))] ++ (und 45 ++ ([.one (.ms 22 0 0 (y166.1.length) 5), .one (.v (.int .i64 (y166.1.length : Int))), .one (.v (.int .i64 p29))] ++ (und 60)))))))) : List PV), ([(7, ⟨0, 4, [[.v (.int .u32 y167.1.1), .ms 24 0 0 (y167.1.2.1.length) 35, .ms 100024 0 0 (y167.1.2.2.1.length) 2, .v (.int .u32 y167.1.2.2.2)]], false, false⟩), (22, ⟨0, 5, List.map eapi_Entry y166.1, true, true⟩), (24, ⟨0, 35, List.map eapi_Input y167.1.2.1, true, true⟩), (100024, ⟨0, 2, List.map eapi_Output y167.1.2.2.1, true, true⟩)] : Boxes)⟩ : ASt)) (by kernel_rfl) hr (by simp [und, List.replicate, c164, c173, c173M, c173L, eq_true c225]) ?_
    rintro ⟨p27, p28, p29⟩ x234r hr234
    simp only [Llaw36_ReplaceEarns_s1] at hr234
    unfold b5_1
    simp only [und, List.replicate, List.cons_append, List.nil_append]
    refine ee_seq_reg rfl (by simp [c164, c173, c173M, c173L, eq_true c225] <;> rfl) ?_
    by_cases c235 : p29 < (y166.1.length : Int)
    ·skip
     have c235N := c235
     try simp at c235N
     first | have c235M : (_ = _) = True := eq_true c235N | have c235M := c235N
     rw [if_pos] at hr234
     rotate_left
     ·simp [c164, c173, c173M, c173L, eq_true c225, c235, c235M]
     refine ee_seq_condT (by simp [bV, c164, c173, c173M, c173L, eq_true c225, c235, c235M]) ?_
     refine ee_seq_skip ?_
     refine ee_seq_block ?_
     obtain ⟨j236, hj236, hr234⟩ := bs hr234
     obtain ⟨j236a, j236b, j236c⟩ := inA_some hj236
     obtain ⟨x237, hx237, hr234⟩ := bs hr234
     have ghx237 := getE_of hx237
     refine ee_seq_reg rfl (by simp [j236a, j236b, j236c, hx237, ghx237, c164, c173, c173M, c173L, eq_true c225, c235, c235M] <;> rfl) ?_
     obtain ⟨y238, hy238, hr234⟩ := bs hr234
     have ehy238 := G13_eq hy238
     simp only [K13, nf, nfs] at ehy238
     refine ee_seq_reg rfl (by simp [hO, hT13, ehy238, c164, c173, c173M, c173L, eq_true c225, c235, c235M] <;> rfl) ?_
     by_cases c240 : y238 = true
     ·skip
      rw [if_pos c240] at hr234
      refine ee_condT (by simp [bV, c164, c173, c173M, c173L, eq_true c225, c235, c235M, c240]) ?_
      refine ee_reg rfl (by simp [c164, c173, c173M, c173L, eq_true c225, c235, c235M, c240] <;> rfl) ?_
      simp only [pq, reduceCtorEq]
      unfold Llaw36_ReplaceEarns_k4 at hr234
      refine ee_regJ rfl (kq := ⟨[1, 6, 7, 8, 9, 11, 12, 58, 59, 60], [7, 22, 24, 37, 100024, 100037], []⟩) rfl (by simp [joinSt, c164, c173, c173M, c173L, eq_true c225, c235, c235M, c240]; rfl) (by simp [c164, c173, c173M, c173L, eq_true c225, c235, c235M, c240] <;> rfl) ?_
      obtain rfl := Option.some.inj hr234
      simp only [pq, reduceCtorEq]
      simp [und, List.replicate, Nat.add_assoc, c164, c173, c173M, c173L, eq_true c225, c235, c235M, c240]
     ·skip
      rw [if_neg c240] at hr234
      refine ee_condF (by simp [bV, c164, c173, c173M, c173L, eq_true c225, c235, c235M, c240]) ?_
      refine ee_skip ?_
      simp only [pq, reduceCtorEq]
      unfold Llaw36_ReplaceEarns_k4 at hr234
      refine ee_regJ rfl (kq := ⟨[1, 6, 7, 8, 9, 11, 12, 58, 59, 60], [7, 22, 24, 37, 100024, 100037], []⟩) rfl (by simp [joinSt, c164, c173, c173M, c173L, eq_true c225, c235, c235M, c240]; rfl) (by simp [c164, c173, c173M, c173L, eq_true c225, c235, c235M, c240] <;> rfl) ?_
      obtain rfl := Option.some.inj hr234
      simp only [pq, reduceCtorEq]
      simp [und, List.replicate, Nat.add_assoc, c164, c173, c173M, c173L, eq_true c225, c235, c235M, c240]
    ·skip
     have c235N := c235
     try simp at c235N
     first | have c235M : (_ = _) = True := eq_true c235N | have c235M := c235N
     rw [if_neg] at hr234
     rotate_left
     ·simp [c164, c173, c173M, c173L, eq_true c225, c235, c235M]
     refine ee_seq_condF (by simp [bV, c164, c173, c173M, c173L, eq_true c225, c235, c235M]) ?_
     refine ee_seq_exit ?_
     obtain ⟨r241, q241, rfl⟩ := ms hr234
     simp only [pq, reduceCtorEq]
     rintro rfl
     try simp only [pq, reduceCtorEq]
     unfold Llaw36_ReplaceEarns_k2 at q241
     refine ee_assoc ?_
     by_cases c242 : (a1).tmod 9000 ≤ p27
     ·skip
      rw [if_pos] at q241
      rotate_left
      ·simp [c164, c173, c173M, c173L, eq_true c225, c235, c235M, c242]
      obtain ⟨z243, hz243, q241⟩ := bs q241
      obtain rfl := Option.some.inj hz243
      refine ee_seq_draw rfl (by simp [c164, c173, c173M, c173L, eq_true c225, c235, c235M, c242]; first | exact ⟨rfl, rfl⟩ | rfl) (by kernel_rfl) ?_
      rw [if_pos] at q241
      rotate_left
      ·simp [c164, c173, c173M, c173L, eq_true c225, c235, c235M, c242]
      refine ee_seq_condT (by simp [bV, c164, c173, c173M, c173L, eq_true c225, c235, c235M, c242]) ?_
      refine ee_assoc ?_
      refine ee_seq_reg rfl (by simp [c164, c173, c173M, c173L, eq_true c225, c235, c235M, c242] <;> rfl) ?_
      refine ee_seq_ret ?_
      obtain rfl := Option.some.inj q241
      simp [FinQ, c164, c173, c173M, c173L, eq_true c225, c235, c235M, c242, c173N, c235N]
     ·skip
      by_cases c244 : (y224.2.1.length : Int) = p28
      ·skip
       have c244N := c244
       try simp at c244N
       by_cases c245 : (y224.1.length : Int) = IntKind.i64.wrap ((IntKind.i64.wrap ((y166.1.length : Int) - p28)) + 1)
       ·skip
        have c245N := c245
        try simp at c245N
        rw [if_neg] at q241
        rotate_left
        ·simp [c164, c173, c173M, c173L, eq_true c225, c235, c235M, c242, eq_true c244, eq_true c244N, eq_true c245, eq_true c245N]
        obtain ⟨z246, hz246, q241⟩ := bs q241
        obtain ⟨x247, hx247, hz246⟩ := bs hz246
        obtain ⟨hx247a, hx247b⟩ := idx_some hx247
        have hx247c := getE_of hx247b
        obtain ⟨y248, hy248, hz246⟩ := bs hz246
        have ehy248 := G21_eq hy248
        simp only [K21, nf, nfs] at ehy248
        obtain rfl := Option.some.inj hz246
        refine ee_seq_draw rfl (by simp [hx247a, hx247b, hx247c, hO, hT21, ehy248, c164, c173, c173M, c173L, eq_true c225, c235, c235M, c242, eq_true c244, eq_true c244N, eq_true c245, eq_true c245N]; first | exact ⟨rfl, rfl⟩ | rfl) (by kernel_rfl) ?_
        by_cases c249 : y248 = true
        ·skip
         rw [if_neg] at q241
         rotate_left
         ·simp [c164, c173, c173M, c173L, eq_true c225, c235, c235M, c242, eq_true c244, eq_true c244N, eq_true c245, eq_true c245N, c249]
         refine ee_seq_condF (by simp [bV, c164, c173, c173M, c173L, eq_true c225, c235, c235M, c242, eq_true c244, eq_true c244N, eq_true c245, eq_true c245N, c249]) ?_
         refine ee_seq_skip ?_
         refine ee_assoc ?_
         obtain ⟨_, u250, q241⟩ := bs q241
         obtain ⟨u250_0, u250_1⟩ := chk_some u250
         have sf251 : (IntKind.i64.wrap ((y224.1.length : Int) - 1)).toNat ≤ y224.1.length := by omega
         have sf252 : 0 ≤ IntKind.i64.wrap ((y224.1.length : Int) - 1) := by omega
         refine ee_seq_reg rfl (by simp [u250_0, u250_1, sf251, sf252, c164, c173, c173M, c173L, eq_true c225, c235, c235M, c242, eq_true c244, eq_true c244N, eq_true c245, eq_true c245N, c249] <;> rfl) ?_
         refine ee_seq_block ?_
         refine ee_loop (kq := ⟨[7, 110, 111, 112], [7, 24, 37, 100024, 100037], []⟩) (H := fun (s : Int) => match s with | p44 => (⟨(und 7 ++ ([.ptr 7 0 0 0 4] ++ (und 102 ++ ([.one (.slice .no (List.map eapi_Entry ((y224.1).take ((IntKind.i64.wrap ((y224.1.length : Int) - 1)).toNat)))), .one (.v (.int .i64 (((y224.1).take ((IntKind.i64.wrap ((y224.1.length : Int) - 1)).toNat)).length : Int))), .one (.v (.int .i64 p44))] ++ (und 8)))) : List PV), ([(7, ⟨0, 4, [[.v (.int .u32 y167.1.1), .ms 24 0 0 (y167.1.2.1.length) 35, .ms 100024 0 0 (y167.1.2.2.1.length) 2, .v (.int .u32 y167.1.2.2.2)]], false, false⟩), (24, ⟨0, 35, List.map eapi_Input y167.1.2.1, true, true⟩), (100024, ⟨0, 2, List.map eapi_Output y167.1.2.2.1, true, true⟩)] : Boxes)⟩ : ASt)) (by kernel_rfl) q241 (by simp [und, List.replicate, sf251, sf252, c164, c173, c173M, c173L, eq_true c225, c235, c235M, c242, eq_true c244, eq_true c244N, eq_true c245, eq_true c245N, c249]) ?_
         rintro p44 x259r hr259
         simp only [Llaw36_ReplaceEarns_s2] at hr259
         unfold b5_2
         simp only [und, List.replicate, List.cons_append, List.nil_append]
         refine ee_seq_reg rfl (by simp [c164, c173, c173M, c173L, eq_true c225, c235, c235M, c242, eq_true c244, eq_true c244N, eq_true c245, eq_true c245N, c249] <;> rfl) ?_
         by_cases c260 : p44 < (((y224.1).take ((IntKind.i64.wrap ((y224.1.length : Int) - 1)).toNat)).length : Int)
         ·skip
          have c260N := c260
          try simp at c260N
          first | have c260M : (_ = _) = True := eq_true c260N | have c260M := c260N
          rw [if_pos] at hr259
          rotate_left
          ·simp [c164, c173, c173M, c173L, eq_true c225, c235, c235M, c242, eq_true c244, eq_true c244N, eq_true c245, eq_true c245N, c249, c260, c260M]
          refine ee_seq_condT (by simp [bV, c164, c173, c173M, c173L, eq_true c225, c235, c235M, c242, eq_true c244, eq_true c244N, eq_true c245, eq_true c245N, c249, c260, c260M]) ?_
          refine ee_seq_skip ?_
          refine ee_seq_block ?_
          obtain ⟨x261, hx261, hr259⟩ := bs hr259
          obtain ⟨hx261a, hx261b⟩ := idx_some hx261
          have hx261c := getE_of hx261b
          have hx261t := take_get hx261b
          have hx261u := getE_of hx261t
          refine ee_seq_reg rfl (by simp [hx261a, hx261b, hx261c, hx261t, hx261u, c164, c173, c173M, c173L, eq_true c225, c235, c235M, c242, eq_true c244, eq_true c244N, eq_true c245, eq_true c245N, c249, c260, c260M] <;> rfl) ?_
          obtain ⟨y262, hy262, hr259⟩ := bs hr259
          have ehy262 := G13_eq hy262
          simp only [K13, nf, nfs] at ehy262
          refine ee_seq_reg rfl (by simp [hO, hT13, ehy262, c164, c173, c173M, c173L, eq_true c225, c235, c235M, c242, eq_true c244, eq_true c244N, eq_true c245, eq_true c245N, c249, c260, c260M] <;> rfl) ?_
          by_cases c263 : y262 = true
          ·skip
           rw [if_pos c263] at hr259
           refine ee_condT (by simp [bV, c164, c173, c173M, c173L, eq_true c225, c235, c235M, c242, eq_true c244, eq_true c244N, eq_true c245, eq_true c245N, c249, c260, c260M, c263]) ?_
           refine ee_seq_reg rfl (by simp [c164, c173, c173M, c173L, eq_true c225, c235, c235M, c242, eq_true c244, eq_true c244N, eq_true c245, eq_true c245N, c249, c260, c260M, c263] <;> rfl) ?_
           refine ee_ret ?_
           obtain rfl := Option.some.inj hr259
           simp only [pq, reduceCtorEq]
           rintro rfl
           simp [FinQ, c164, c173, c173M, c173L, eq_true c225, c235, c235M, c242, eq_true c244, eq_true c244N, eq_true c245, eq_true c245N, c249, c260, c260M, c263, c173N, c235N, c260N]
          ·skip
           rw [if_neg c263] at hr259
           refine ee_condF (by simp [bV, c164, c173, c173M, c173L, eq_true c225, c235, c235M, c242, eq_true c244, eq_true c244N, eq_true c245, eq_true c245N, c249, c260, c260M, c263]) ?_
           refine ee_skip ?_
           simp only [pq, reduceCtorEq]
           refine ee_reg rfl (by simp [c164, c173, c173M, c173L, eq_true c225, c235, c235M, c242, eq_true c244, eq_true c244N, eq_true c245, eq_true c245N, c249, c260, c260M, c263] <;> rfl) ?_
           obtain rfl := Option.some.inj hr259
           simp only [pq, reduceCtorEq]
           simp [und, List.replicate, Nat.add_assoc, c164, c173, c173M, c173L, eq_true c225, c235, c235M, c242, eq_true c244, eq_true c244N, eq_true c245, eq_true c245N, c249, c260, c260M, c263]
         ·skip
          have c260N := c260
          try simp at c260N
          first | have c260M : (_ = _) = True := eq_true c260N | have c260M := c260N
          rw [if_neg] at hr259
          rotate_left
          ·simp [c164, c173, c173M, c173L, eq_true c225, c235, c235M, c242, eq_true c244, eq_true c244N, eq_true c245, eq_true c245N, c249, c260, c260M]
          refine ee_seq_condF (by simp [bV, c164, c173, c173M, c173L, eq_true c225, c235, c235M, c242, eq_true c244, eq_true c244N, eq_true c245, eq_true c245N, c249, c260, c260M]) ?_
          refine ee_seq_exit ?_
          obtain ⟨r264, q264, rfl⟩ := ms hr259
          simp only [pq, reduceCtorEq]
          rintro rfl
          try simp only [pq, reduceCtorEq]
          unfold Llaw36_ReplaceEarns_k3 at q264
          refine ee_seq_reg rfl (by simp [c164, c173, c173M, c173L, eq_true c225, c235, c235M, c242, eq_true c244, eq_true c244N, eq_true c245, eq_true c245N, c249, c260, c260M] <;> rfl) ?_
          refine ee_ret ?_
          obtain rfl := Option.some.inj q264
          simp [FinQ, c164, c173, c173M, c173L, eq_true c225, c235, c235M, c242, eq_true c244, eq_true c244N, eq_true c245, eq_true c245N, c249, c260, c260M, c173N, c235N, c260N]
        ·skip
         rw [if_pos] at q241
         rotate_left
         ·simp [c164, c173, c173M, c173L, eq_true c225, c235, c235M, c242, eq_true c244, eq_true c244N, eq_true c245, eq_true c245N, c249]
         refine ee_seq_condT (by simp [bV, c164, c173, c173M, c173L, eq_true c225, c235, c235M, c242, eq_true c244, eq_true c244N, eq_true c245, eq_true c245N, c249]) ?_
         refine ee_assoc ?_
         refine ee_seq_reg rfl (by simp [c164, c173, c173M, c173L, eq_true c225, c235, c235M, c242, eq_true c244, eq_true c244N, eq_true c245, eq_true c245N, c249] <;> rfl) ?_
         refine ee_seq_ret ?_
         obtain rfl := Option.some.inj q241
         simp [FinQ, c164, c173, c173M, c173L, eq_true c225, c235, c235M, c242, eq_true c244, eq_true c244N, eq_true c245, eq_true c245N, c249, c173N, c235N]
       ·skip
        have c245N := c245
        try simp at c245N
        first | have c245M : (_ = _) = True := eq_true c245N | have c245M := c245N
        rw [if_pos] at q241
        rotate_left
        ·simp [c164, c173, c173M, c173L, eq_true c225, c235, c235M, c242, eq_true c244, eq_true c244N, c245, c245M]
        obtain ⟨z265, hz265, q241⟩ := bs q241
        obtain rfl := Option.some.inj hz265
        refine ee_seq_draw rfl (by simp [c164, c173, c173M, c173L, eq_true c225, c235, c235M, c242, eq_true c244, eq_true c244N, c245, c245M]; first | exact ⟨rfl, rfl⟩ | rfl) (by kernel_rfl) ?_
        rw [if_pos] at q241
        rotate_left
        ·simp [c164, c173, c173M, c173L, eq_true c225, c235, c235M, c242, eq_true c244, eq_true c244N, c245, c245M]
        refine ee_seq_condT (by simp [bV, c164, c173, c173M, c173L, eq_true c225, c235, c235M, c242, eq_true c244, eq_true c244N, c245, c245M]) ?_
        refine ee_assoc ?_
        refine ee_seq_reg rfl (by simp [c164, c173, c173M, c173L, eq_true c225, c235, c235M, c242, eq_true c244, eq_true c244N, c245, c245M] <;> rfl) ?_
        refine ee_seq_ret ?_
        obtain rfl := Option.some.inj q241
        simp [FinQ, c164, c173, c173M, c173L, eq_true c225, c235, c235M, c242, eq_true c244, eq_true c244N, c245, c245M, c173N, c235N, c245N]
      ·skip
       have c244N := c244
       try simp at c244N
       first | have c244M : (_ = _) = True := eq_true c244N | have c244M := c244N
       rw [if_pos] at q241
       rotate_left
       ·simp [c164, c173, c173M, c173L, eq_true c225, c235, c235M, c242, c244, c244M]
       obtain ⟨z266, hz266, q241⟩ := bs q241
       obtain rfl := Option.some.inj hz266
       refine ee_seq_draw rfl (by simp [c164, c173, c173M, c173L, eq_true c225, c235, c235M, c242, c244, c244M]; first | exact ⟨rfl, rfl⟩ | rfl) (by kernel_rfl) ?_
       rw [if_pos] at q241
       rotate_left
       ·simp [c164, c173, c173M, c173L, eq_true c225, c235, c235M, c242, c244, c244M]
       refine ee_seq_condT (by simp [bV, c164, c173, c173M, c173L, eq_true c225, c235, c235M, c242, c244, c244M]) ?_
       refine ee_assoc ?_
       refine ee_seq_reg rfl (by simp [c164, c173, c173M, c173L, eq_true c225, c235, c235M, c242, c244, c244M] <;> rfl) ?_
       refine ee_seq_ret ?_
       obtain rfl := Option.some.inj q241
       simp [FinQ, c164, c173, c173M, c173L, eq_true c225, c235, c235M, c242, c244, c244M, c173N, c235N, c244N]
   ·skip
    rw [if_pos c225] at hr
    refine ee_seq_condT (by simp [bV, c164, c173, c173M, c173L, c225]) ?_
    refine ee_assoc ?_
    by_cases c267 : (y224.1.length : Int) = 0
    ·skip
     have c267N := c267
     try simp at c267N
     refine ee_seq_reg rfl (by simp [c164, c173, c173M, c173L, c225, eq_true c267, eq_true c267N] <;> rfl) ?_
     refine ee_seq_ret ?_
     obtain rfl := Option.some.inj hr
     simp [FinQ, c164, c173, c173M, c173L, c225, eq_true c267, eq_true c267N, c173N]
    ·skip
     have c267N := c267
     try simp at c267N
     first | have c267M : (_ = _) = True := eq_true c267N | have c267M := c267N
     refine ee_seq_reg rfl (by simp [c164, c173, c173M, c173L, c225, c267, c267M] <;> rfl) ?_
     refine ee_seq_ret ?_
     obtain rfl := Option.some.inj hr
     simp [FinQ, c164, c173, c173M, c173L, c225, c267, c267M, c173N, c267N]
 ·skip
  rw [if_pos c164] at hr
  refine ee_seq_condT (by simp [bV, c164]) ?_
  refine ee_assoc ?_
  refine ee_seq_reg rfl (by simp [c164]; rfl) ?_
  refine ee_seq_ret ?_
  obtain rfl := Option.some.inj hr
  simp [FinQ, c164]
end Go.Proofs.YtconfbgcjkjnkaaDoor
