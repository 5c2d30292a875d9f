import Derived.Test.YthpkpciceodioaaGreatDoorLcG3
import Derived.Test.YthpkpciceodioaaGreatDoorLcG1
import Derived.Test.YthpkpciceodioaaGreatDoorLcG1
import Derived.Test.YthpkpciceodioaaGreatDoorLcG3
import Derived.Test.YthpkpciceodioaaGreatDoorTt
namespace Go.Proofs.YthpkpciceodioaaGreatDoor
open Go.RowKit
open Go.Av
open Go.Lc
set_option maxRecDepth 100000
set_option linter.unusedSimpArgs false
set_option linter.unusedVariables false
attribute [simp] tt1 tt2 tt3 tt4 tt5 tt6 tt7 tt8 tt9 tt10 tt11 tt12 tt13 tt14 tt15 tt16 tt17 tt18 tt19 tt21 tt22 tt23 tt24 tt25 tt26 tt27 tt28 tt29 tt30 tt31 tt32 tt33 tt34 tt35 tt37 tt38 tt39 tt40 tt41 tt42 tt44 tt45 tt46 tt47 tt48 tt49 tt50 tt51 tt52 tt53 tt54 tt55 tt56 tt57 tt58 tt59 tt60 tt61 tt62 tt63 tt64 tt65 tt66 tt67 tt68 tt69 tt70 tt71 tt72 tt73 tt74 tt75 tt77 tt78 tt79 tt80 tt81 tt82 tt83 tt84 tt85 tt86 tt87 tt88 tt89 tt90 tt91 tt92 tt93 tt94 tt95 tt96 tt97 tt98 tt99 tt101 tt103 tt104 tt105 tt106 tt107 tt108 tt109 tt110 tt111 tt112 tt113 tt114 tt115 tt117 tt118 tt119 tt120 tt121 tt122 tt123 tt124 tt125 tt126 tt127 tt129 tt130 tt132 tt133 tt135 tt136 tt137 tt138 tt139 tt140 tt142 tt144 tt146 tt147 tt148 tt149 tt150 tt151 tt152 tt154 tt155 tt156 tt157 tt158 tt160 tt161 tt162 tt163 tt164 tt165 tt166 tt168 tt170 tt171 tt172 tt173 tt174 tt175 tt176 tt177 tt179 tt180 tt181 tt182 tt183 tt184 tt185 tt186 tt187 tt188 tt189 tt190 tt191 tt192 tt193 tt194 tt195 tt196 tt197 tt198 tt199 tt200 tt201 tt202 tt203 tt204 tt206 tt207 tt208 tt209 tt210 tt211 tt212 tt213 tt214 tt215 tt216 tt217 tt219 tt220 tt221 tt222 tt223 tt224 tt225 tt226 tt227 tt228 tt229 tt230 tt231 tt233 tt234 tt235 tt236 tt237 tt238 tt239 tt240 tt241 tt242 tt243 tt244 tt245 tt246 tt248 tt249 tt250 tt252 tt253 tt254 tt255 tt256 tt257 tt258 tt259 tt260 tt261 tt263 tt264 tt265 tt266 tt268 tt269 tt271 tt272 tt273 tt274 tt275 tt276 tt277 tt278 tt279 tt280 tt281 tt283 tt284 tt285 tt286 tt288 tt289 tt291 tt292 tt294 tt295 tt296 tt297 tt298 tt299 tt300 tt301 tt302 tt303 tt305 tt307 tt308 tt309 tt310 tt311 tt312 tt313 tt314 tt315 tt316 tt318 tt319 tt320 tt321 tt322 tt323 tt324 tt325 tt326 tt327 tt328 tt329 tt330 tt331 tt332 tt333 tt334 tt335 tt336 tt337 tt338 tt339 tt340 tt341 tt342 ti1 ti2 ti3 ti4 ti5 ti6 ti7 ti8 ti9 ti10 ti11 ti12 ti13 ti14 ti15 ti16 ti17 ti18 ti19 ti21 ti22 ti23 ti24 ti25 ti26 ti27 ti28 ti29 ti30 ti31 ti32 ti33 ti34 ti35 ti37 ti38 ti39 ti40 ti41 ti42 ti44 ti45 ti46 ti47 ti48 ti49 ti50 ti51 ti52 ti53 ti54 ti55 ti56 ti57 ti58 ti59 ti60 ti61 ti62 ti63 ti64 ti65 ti66 ti67 ti68 ti69 ti70 ti71 ti72 ti73 ti74 ti75 ti77 ti78 ti79 ti80 ti81 ti82 ti83 ti84 ti85 ti86 ti87 ti88 ti89 ti90 ti91 ti92 ti93 ti94 ti95 ti96 ti97 ti98 ti99 ti101 ti103 ti104 ti105 ti106 ti107 ti108 ti109 ti110 ti111 ti112 ti113 ti114 ti115 ti117 ti118 ti119 ti120 ti121 ti122 ti123 ti124 ti125 ti126 ti127 ti129 ti130 ti132 ti133 ti135 ti136 ti137 ti138 ti139 ti140 ti142 ti144 ti146 ti147 ti148 ti149 ti150 ti151 ti152 ti154 ti155 ti156 ti157 ti158 ti160 ti161 ti162 ti163 ti164 ti165 ti166 ti168 ti170 ti171 ti172 ti173 ti174 ti175 ti176 ti177 ti179 ti180 ti181 ti182 ti183 ti184 ti185 ti186 ti187 ti188 ti189 ti190 ti191 ti192 ti193 ti194 ti195 ti196 ti197 ti198 ti199 ti200 ti201 ti202 ti203 ti204 ti206 ti207 ti208 ti209 ti210 ti211 ti212 ti213 ti214 ti215 ti216 ti217 ti219 ti220 ti221 ti222 ti223 ti224 ti225 ti226 ti227 ti228 ti229 ti230 ti231 ti233 ti234 ti235 ti236 ti237 ti238 ti239 ti240 ti241 ti242 ti243 ti244 ti245 ti246 ti248 ti249 ti250 ti252 ti253 ti254 ti255 ti256 ti257 ti258 ti259 ti260 ti261 ti263 ti264 ti265 ti266 ti268 ti269 ti271 ti272 ti273 ti274 ti275 ti276 ti277 ti278 ti279 ti280 ti281 ti283 ti284 ti285 ti286 ti288 ti289 ti291 ti292 ti294 ti295 ti296 ti297 ti298 ti299 ti300 ti301 ti302 ti303 ti305 ti307 ti308 ti309 ti310 ti311 ti312 ti313 ti314 ti315 ti316 ti318 ti319 ti320 ti321 ti322 ti323 ti324 ti325 ti326 ti327 ti328 ti329 ti330 ti331 ti332 ti333 ti334 ti335 ti336 ti337 ti338 ti339 ti340 ti341 ti342
@[simp] theorem arCs_any2 {n : Nat} {k : IntKind} {l : List (Arr n)} : l.any ((fun l=>l.any Cell.isSl) ∘ arC k) = false:=by simp [arC,ints]
@[simp↓] theorem intsR_alld {k : IntKind} (m : List Int) (n : Nat) : (∀ l,l∈List.drop n (intsR k m)→l.length = 1) = True:=eq_true fun l h=>intsR_all l (List.mem_of_mem_drop h)
@[simp↓] theorem intsR_allt {k : IntKind} (m : List Int) (n : Nat) : (∀ l,l∈List.take n (intsR k m)→l.length = 1) = True:=eq_true fun l h=>intsR_all l (List.mem_of_mem_take h)
@[simp↓] theorem intsR_all1 {k : IntKind} (m : List Int) : (∀ l,l∈(intsR k m).tail→l.length = 1) = True:=eq_true fun l h=>intsR_all l (List.mem_of_mem_tail h)
@[simp↓] theorem intsR_all1t {k : IntKind} (m : List Int) (n : Nat) : (∀ l,l∈List.take n (intsR k m).tail→l.length = 1) = True:=eq_true fun l h=>intsR_all l (List.mem_of_mem_tail (List.mem_of_mem_take h))
@[simp↓] theorem intsR_all1d {k : IntKind} (m : List Int) (n : Nat) : (∀ l,l∈List.drop n (intsR k m).tail→l.length = 1) = True:=eq_true fun l h=>intsR_all l (List.mem_of_mem_tail (List.mem_of_mem_drop h))
@[simp] theorem arC_z8 : arC .u64 (zA 8) = arC .u64 (zA 4)++arC .u64 (zA 4):=rfl
@[simp] theorem arC_z12 : arC .u64 (zA 12) = arC .u64 (zA 4)++(arC .u64 (zA 4)++arC .u64 (zA 4)):=rfl
@[simp] def eS_I_u8 (x : (List Int)) : List Cell:=[.slice .no (intsR .u8 x)]
theorem eS_I_u8_inj : ∀ a b,eS_I_u8 a = eS_I_u8 b→a = b:=by
  rintro a b h
  simpa [and_assoc] using h
@[simp↓] theorem eS_I_u8_all (m : List (List Int)) : (∀ l,l∈List.map eS_I_u8 m→l.length = 1) = True:=all_map_len (fun a=>by simp) m
@[simp↓] theorem eS_I_u8_alld (m : List (List Int)) (k : Nat) : (∀ l,l∈List.drop k (List.map eS_I_u8 m)→l.length = 1) = True:=eq_true fun l h=>of_eq_true (eS_I_u8_all m) l (List.mem_of_mem_drop h)
@[simp↓] theorem eS_I_u8_allt (m : List (List Int)) (k : Nat) : (∀ l,l∈List.take k (List.map eS_I_u8 m)→l.length = 1) = True:=eq_true fun l h=>of_eq_true (eS_I_u8_all m) l (List.mem_of_mem_take h)
@[simp] theorem eS_I_u8_map {l m : List (List Int)} : List.map eS_I_u8 l = List.map eS_I_u8 m↔l = m:=map_iff eS_I_u8_inj
theorem nfs : (∀ x : (List Int),eS_I_u8 x = [.slice .no (intsR .u8 x)]):=fun _=>rfl
theorem bN {α β : Type} {o : Option α} {f : α→Option β} {y : β} {P P' : α→Prop} (h : o.bind f = some y) (k : ∀ {x},o = some x→P x) (n : ∀ x,P x→P' x:=by intro x h; try simp only [nf,nfs] at h; exact h) : ∃ x,P' x∧f x = some y :=
  let ⟨x,h1,h2⟩:=bs h
  ⟨x,n x (k h1),h2⟩
theorem goADRT {P R : Prop} (k : R) (h : ∀ X : Prop,SameP X R→Imp X P:=by
  intro X e
  repeat (first
    | (with_reducible refine im_assoc ?_)
    | (with_reducible refine im_seq_skip ?_)
    | (with_reducible refine im_seq_block ?_)
    | (with_reducible refine im_seq_exit ?_)
    | (with_reducible refine im_seq_ret ?_)
    | (with_reducible refine im_block ?_)
    | (with_reducible refine im_skip ?_)
    | (with_reducible refine im_exit ?_)
    | (with_reducible refine im_ret ?_)
    | (with_reducible refine im_seq_condT ?_ ?_; · simp [-Int.ofNat_toNat,bV, *]; done)
    | (with_reducible refine im_seq_condF ?_ ?_; · simp [-Int.ofNat_toNat,bV, *]; done)
    | (refine im_seq_reg rfl (by first | (simp [-Int.ofNat_toNat,Nat.add_assoc,-Int.natCast_tdiv_eq_ediv,List.range,List.range.loop,-intsR_app,-List.take_append,-List.drop_append, *] <;> rfl) | fail) ?_)
    | (refine im_seq_draw rfl (by simp [-Int.ofNat_toNat,Nat.add_assoc,-Int.natCast_tdiv_eq_ediv,List.range,List.range.loop,-intsR_app,-List.take_append,-List.drop_append, *]; first | exact ⟨rfl,rfl⟩ | rfl) (by kernel_rfl) ?_)
    | (with_reducible refine im_condT ?_ ?_; · simp [-Int.ofNat_toNat,bV, *]; done)
    | (with_reducible refine im_condF ?_ ?_; · simp [-Int.ofNat_toNat,bV, *]; done)
    | (refine im_reg rfl (by first | (simp [-Int.ofNat_toNat,Nat.add_assoc,-Int.natCast_tdiv_eq_ediv,List.range,List.range.loop,-intsR_app,-List.take_append,-List.drop_append, *] <;> rfl) | fail) ?_)
    | (refine im_draw rfl (by simp [-Int.ofNat_toNat,Nat.add_assoc,-Int.natCast_tdiv_eq_ediv,List.range,List.range.loop,-intsR_app,-List.take_append,-List.drop_append, *]; first | exact ⟨rfl,rfl⟩ | rfl) (by kernel_rfl) ?_)
    | (refine im_pq ?_ (by simp only [pq,reduceCtorEq]; rfl)))
  exact Imp.of e) : P:=h R ⟨rfl⟩ k
theorem goR {P R : Prop} (k : R) (h : ∀ X : Prop,SameP X R→Imp X P:=by
  intro X e
  repeat (first
    | (with_reducible refine im_assoc ?_)
    | (with_reducible refine im_seq_skip ?_)
    | (with_reducible refine im_seq_block ?_)
    | (with_reducible refine im_seq_exit ?_)
    | (with_reducible refine im_seq_ret ?_)
    | (with_reducible refine im_block ?_)
    | (with_reducible refine im_skip ?_)
    | (with_reducible refine im_exit ?_)
    | (with_reducible refine im_ret ?_)
    | (with_reducible refine im_seq_condT ?_ ?_; · simp [-Int.ofNat_toNat,bV, *]; done)
    | (with_reducible refine im_seq_condF ?_ ?_; · simp [-Int.ofNat_toNat,bV, *]; done)
    | (refine im_seq_reg rfl (by first | (simp [-Int.ofNat_toNat,List.range,List.range.loop, *] <;> rfl) | fail) ?_)
    | (refine im_seq_draw rfl (by simp [-Int.ofNat_toNat,List.range,List.range.loop, *]; first | exact ⟨rfl,rfl⟩ | rfl) (by kernel_rfl) ?_)
    | (with_reducible refine im_condT ?_ ?_; · simp [-Int.ofNat_toNat,bV, *]; done)
    | (with_reducible refine im_condF ?_ ?_; · simp [-Int.ofNat_toNat,bV, *]; done)
    | (refine im_reg rfl (by first | (simp [-Int.ofNat_toNat,List.range,List.range.loop, *] <;> rfl) | fail) ?_)
    | (refine im_draw rfl (by simp [-Int.ofNat_toNat,List.range,List.range.loop, *]; first | exact ⟨rfl,rfl⟩ | rfl) (by kernel_rfl) ?_)
    | (refine im_pq ?_ (by simp only [pq,reduceCtorEq]; rfl)))
  exact Imp.of e) : P:=h R ⟨rfl⟩ k
def G : Glob:=fun g=>if g = 0 then some (arC .u32 shaInitial) else if g = 1 then some (arC .u32 shaK) else none
@[simp] theorem G_at0 : G 0 = some (arC .u32 shaInitial):=rfl
@[simp] theorem G_at1 : G 1 = some (arC .u32 shaK):=rfl
noncomputable abbrev K9 : Con Unit Bool:=⟨fun _=>[],fun _ y=>(.one (.v (.bool y)),[]),fun _=>Lconst_true⟩
theorem i9 : K9.Inj:=fun _ _ _=>rfl
theorem G9_eq { y} (h : Lconst_true  = some y) : K9.G (K9.E ()) = some (K9.R () y):=i9.eq h
noncomputable abbrev K25 : Con ((List Int)×(List Int)) Bool:=⟨fun x=>[.one (.slice .no (intsR .u8 x.1)),.one (.slice .no (intsR .u8 x.2))],fun _ y=>(.one (.v (.bool y)),[]),fun x=>Lref01_Same x.1 x.2⟩
theorem i25 : K25.Inj:=by intro a b h; simpa [K25,Prod.ext_iff,and_assoc] using h
theorem G25_eq {a0 a1 y} (h : Lref01_Same a0 a1 = some y) : K25.G (K25.E (a0,a1)) = some (K25.R (a0,a1) y):=i25.eq h
noncomputable abbrev K16 : Con (Tapi_Filter×Tapi_Filter) Bool:=⟨fun x=>[.agg ([.v (.int .i64 x.1.1),.slice .no (intsR .u8 x.1.2)]),.agg ([.v (.int .i64 x.2.1),.slice .no (intsR .u8 x.2.2)])],fun _ y=>(.one (.v (.bool y)),[]),fun x=>Lref19_Same x.1 x.2⟩
theorem i16 : K16.Inj:=by intro a b h; simpa [K16,Prod.ext_iff,and_assoc] using h
theorem G16_eq {a0 a1 y} (h : Lref19_Same a0 a1 = some y) : K16.G (K16.E (a0,a1)) = some (K16.R (a0,a1) y):=i16.eq h
noncomputable abbrev K97 : Con ((List Int)×(List Int)) ((List Int)):=⟨fun x=>[.one (.slice .no (intsR .u8 x.1)),.one (.slice .no (intsR .u8 x.2))],fun _ y=>(.one (.own 1 (intsR .u8 y)),[]),fun x=>Lcodec_extend x.1 x.2⟩
theorem i97 : K97.Inj:=by intro a b h; simpa [K97,Prod.ext_iff,and_assoc] using h
theorem G97_eq {a0 a1 y} (h : Lcodec_extend a0 a1 = some y) : K97.G (K97.E (a0,a1)) = some (K97.R (a0,a1) y):=i97.eq h
noncomputable abbrev K119 : Con (Int×Int) ((List Int)):=⟨fun x=>[.one (.v (.int .u64 x.1)),.one (.v (.int .i64 x.2))],fun _ y=>(.one (.own 1 (intsR .u8 y)),[]),fun x=>Lcodec_lowest x.1 x.2⟩
theorem i119 : K119.Inj:=by intro a b h; simpa [K119,Prod.ext_iff,and_assoc] using h
theorem G119_eq {a0 a1 y} (h : Lcodec_lowest a0 a1 = some y) : K119.G (K119.E (a0,a1)) = some (K119.R (a0,a1) y):=i119.eq h
noncomputable abbrev K80 : Con ((List Int)×Int) ((List Int)):=⟨fun x=>[.one (.slice .no (intsR .u8 x.1)),.one (.v (.int .u32 x.2))],fun _ y=>(.one (.own 1 (intsR .u8 y)),[]),fun x=>Lcodec_AppendU32 x.1 x.2⟩
theorem i80 : K80.Inj:=by intro a b h; simpa [K80,Prod.ext_iff,and_assoc] using h
theorem G80_eq {a0 a1 y} (h : Lcodec_AppendU32 a0 a1 = some y) : K80.G (K80.E (a0,a1)) = some (K80.R (a0,a1) y):=i80.eq h
noncomputable abbrev K98 : Con ((List Int)×Int) ((List Int)):=⟨fun x=>[.one (.slice .no (intsR .u8 x.1)),.one (.v (.int .u16 x.2))],fun _ y=>(.one (.own 1 (intsR .u8 y)),[]),fun x=>Lcodec_AppendU16 x.1 x.2⟩
theorem i98 : K98.Inj:=by intro a b h; simpa [K98,Prod.ext_iff,and_assoc] using h
theorem G98_eq {a0 a1 y} (h : Lcodec_AppendU16 a0 a1 = some y) : K98.G (K98.E (a0,a1)) = some (K98.R (a0,a1) y):=i98.eq h
noncomputable abbrev K99 : Con ((List Int)×Int) ((List Int)):=⟨fun x=>[.one (.slice .no (intsR .u8 x.1)),.one (.v (.int .u64 x.2))],fun _ y=>(.one (.own 1 (intsR .u8 y)),[]),fun x=>Lcodec_AppendU64 x.1 x.2⟩
theorem i99 : K99.Inj:=by intro a b h; simpa [K99,Prod.ext_iff,and_assoc] using h
theorem G99_eq {a0 a1 y} (h : Lcodec_AppendU64 a0 a1 = some y) : K99.G (K99.E (a0,a1)) = some (K99.R (a0,a1) y):=i99.eq h
noncomputable abbrev K56 : Con ((List Int)×Int) ((List Int)):=⟨fun x=>[.one (.slice .no (intsR .u8 x.1)),.one (.v (.int .u64 x.2))],fun _ y=>(.one (.own 1 (intsR .u8 y)),[]),fun x=>Lcodec_AppendSize x.1 x.2⟩
theorem i56 : K56.Inj:=by intro a b h; simpa [K56,Prod.ext_iff,and_assoc] using h
theorem G56_eq {a0 a1 y} (h : Lcodec_AppendSize a0 a1 = some y) : K56.G (K56.E (a0,a1)) = some (K56.R (a0,a1) y):=i56.eq h
noncomputable abbrev K55 : Con ((List Int)×(List Int)) ((List Int)):=⟨fun x=>[.one (.slice .no (intsR .u8 x.1)),.one (.slice .no (intsR .u8 x.2))],fun _ y=>(.one (.own 1 (intsR .u8 y)),[]),fun x=>Lcodec_AppendBytes x.1 x.2⟩
theorem i55 : K55.Inj:=by intro a b h; simpa [K55,Prod.ext_iff,and_assoc] using h
theorem G55_eq {a0 a1 y} (h : Lcodec_AppendBytes a0 a1 = some y) : K55.G (K55.E (a0,a1)) = some (K55.R (a0,a1) y):=i55.eq h
noncomputable abbrev K26 : Con Tapi_Filter ((List Int)×Int):=⟨fun x=>[.agg ([.v (.int .i64 x.1),.slice .no (intsR .u8 x.2)])],fun _ y=>(.tup [.one (.slice .no (intsR .u8 y.1)),.one (.v (.int .i64 y.2))],[]),fun x=>Lfilter_Encode x⟩
theorem i26 : K26.Inj:=by intro a b h; simpa [K26,Prod.ext_iff,and_assoc] using h
theorem G26_eq {a0 y} (h : Lfilter_Encode a0 = some y) : K26.G (K26.E a0) = some (K26.R a0 y):=i26.eq h
noncomputable abbrev K196 : Con ((List Int)×Int×Int) Int:=⟨fun x=>[.one (.slice .no (intsR .u8 x.1)),.one (.v (.int .i64 x.2.1)),.one (.v (.int .i64 x.2.2))],fun _ y=>(.one (.v (.int .i64 y)),[]),fun x=>Lcodec_room x.1 x.2.1 x.2.2⟩
theorem i196 : K196.Inj:=by intro a b h; simpa [K196,Prod.ext_iff,and_assoc] using h
theorem G196_eq {a0 a1 a2 y} (h : Lcodec_room a0 a1 a2 = some y) : K196.G (K196.E (a0,a1,a2)) = some (K196.R (a0,a1,a2) y):=i196.eq h
noncomputable abbrev K149 : Con ((List Int)×Int×Int) (Int×Int×Int):=⟨fun x=>[.one (.slice .no (intsR .u8 x.1)),.one (.v (.int .i64 x.2.1)),.one (.v (.int .i64 x.2.2))],fun _ y=>(.tup [.one (.v (.int .u8 y.1)),.one (.v (.int .i64 y.2.1)),.one (.v (.int .i64 y.2.2))],[]),fun x=>Lcodec_read_of_uint8 x.1 x.2.1 x.2.2⟩
theorem i149 : K149.Inj:=by intro a b h; simpa [K149,Prod.ext_iff,and_assoc] using h
theorem G149_eq {a0 a1 a2 y} (h : Lcodec_read_of_uint8 a0 a1 a2 = some y) : K149.G (K149.E (a0,a1,a2)) = some (K149.R (a0,a1,a2) y):=i149.eq h
noncomputable abbrev K100 : Con ((List Int)×Int) (Int×Int×Int):=⟨fun x=>[.one (.slice .no (intsR .u8 x.1)),.one (.v (.int .i64 x.2))],fun _ y=>(.tup [.one (.v (.int .u8 y.1)),.one (.v (.int .i64 y.2.1)),.one (.v (.int .i64 y.2.2))],[]),fun x=>Lcodec_U8 x.1 x.2⟩
theorem i100 : K100.Inj:=by intro a b h; simpa [K100,Prod.ext_iff,and_assoc] using h
theorem G100_eq {a0 a1 y} (h : Lcodec_U8 a0 a1 = some y) : K100.G (K100.E (a0,a1)) = some (K100.R (a0,a1) y):=i100.eq h
noncomputable abbrev K150 : Con ((List Int)×Int×Int) (Int×Int×Int):=⟨fun x=>[.one (.slice .no (intsR .u8 x.1)),.one (.v (.int .i64 x.2.1)),.one (.v (.int .i64 x.2.2))],fun _ y=>(.tup [.one (.v (.int .u16 y.1)),.one (.v (.int .i64 y.2.1)),.one (.v (.int .i64 y.2.2))],[]),fun x=>Lcodec_read_of_uint16 x.1 x.2.1 x.2.2⟩
theorem i150 : K150.Inj:=by intro a b h; simpa [K150,Prod.ext_iff,and_assoc] using h
theorem G150_eq {a0 a1 a2 y} (h : Lcodec_read_of_uint16 a0 a1 a2 = some y) : K150.G (K150.E (a0,a1,a2)) = some (K150.R (a0,a1,a2) y):=i150.eq h
noncomputable abbrev K101 : Con ((List Int)×Int) (Int×Int×Int):=⟨fun x=>[.one (.slice .no (intsR .u8 x.1)),.one (.v (.int .i64 x.2))],fun _ y=>(.tup [.one (.v (.int .u16 y.1)),.one (.v (.int .i64 y.2.1)),.one (.v (.int .i64 y.2.2))],[]),fun x=>Lcodec_U16 x.1 x.2⟩
theorem i101 : K101.Inj:=by intro a b h; simpa [K101,Prod.ext_iff,and_assoc] using h
theorem G101_eq {a0 a1 y} (h : Lcodec_U16 a0 a1 = some y) : K101.G (K101.E (a0,a1)) = some (K101.R (a0,a1) y):=i101.eq h
noncomputable abbrev K151 : Con ((List Int)×Int×Int) (Int×Int×Int):=⟨fun x=>[.one (.slice .no (intsR .u8 x.1)),.one (.v (.int .i64 x.2.1)),.one (.v (.int .i64 x.2.2))],fun _ y=>(.tup [.one (.v (.int .u32 y.1)),.one (.v (.int .i64 y.2.1)),.one (.v (.int .i64 y.2.2))],[]),fun x=>Lcodec_read_of_uint32 x.1 x.2.1 x.2.2⟩
theorem i151 : K151.Inj:=by intro a b h; simpa [K151,Prod.ext_iff,and_assoc] using h
theorem G151_eq {a0 a1 a2 y} (h : Lcodec_read_of_uint32 a0 a1 a2 = some y) : K151.G (K151.E (a0,a1,a2)) = some (K151.R (a0,a1,a2) y):=i151.eq h
noncomputable abbrev K102 : Con ((List Int)×Int) (Int×Int×Int):=⟨fun x=>[.one (.slice .no (intsR .u8 x.1)),.one (.v (.int .i64 x.2))],fun _ y=>(.tup [.one (.v (.int .u32 y.1)),.one (.v (.int .i64 y.2.1)),.one (.v (.int .i64 y.2.2))],[]),fun x=>Lcodec_U32 x.1 x.2⟩
theorem i102 : K102.Inj:=by intro a b h; simpa [K102,Prod.ext_iff,and_assoc] using h
theorem G102_eq {a0 a1 y} (h : Lcodec_U32 a0 a1 = some y) : K102.G (K102.E (a0,a1)) = some (K102.R (a0,a1) y):=i102.eq h
noncomputable abbrev K152 : Con ((List Int)×Int×Int) (Int×Int×Int):=⟨fun x=>[.one (.slice .no (intsR .u8 x.1)),.one (.v (.int .i64 x.2.1)),.one (.v (.int .i64 x.2.2))],fun _ y=>(.tup [.one (.v (.int .u64 y.1)),.one (.v (.int .i64 y.2.1)),.one (.v (.int .i64 y.2.2))],[]),fun x=>Lcodec_read_of_uint64 x.1 x.2.1 x.2.2⟩
theorem i152 : K152.Inj:=by intro a b h; simpa [K152,Prod.ext_iff,and_assoc] using h
theorem G152_eq {a0 a1 a2 y} (h : Lcodec_read_of_uint64 a0 a1 a2 = some y) : K152.G (K152.E (a0,a1,a2)) = some (K152.R (a0,a1,a2) y):=i152.eq h
noncomputable abbrev K103 : Con ((List Int)×Int) (Int×Int×Int):=⟨fun x=>[.one (.slice .no (intsR .u8 x.1)),.one (.v (.int .i64 x.2))],fun _ y=>(.tup [.one (.v (.int .u64 y.1)),.one (.v (.int .i64 y.2.1)),.one (.v (.int .i64 y.2.2))],[]),fun x=>Lcodec_U64 x.1 x.2⟩
theorem i103 : K103.Inj:=by intro a b h; simpa [K103,Prod.ext_iff,and_assoc] using h
theorem G103_eq {a0 a1 y} (h : Lcodec_U64 a0 a1 = some y) : K103.G (K103.E (a0,a1)) = some (K103.R (a0,a1) y):=i103.eq h
def E57 (x : (List Int)×Int×Int) : List PV:=[.one (.slice .no (intsR .u8 x.1)),.one (.v (.int .i64 x.2.1)),.one (.v (.int .u64 x.2.2))]
theorem E57i : ∀ a b,E57 a = E57 b→a = b:=by
  rintro ⟨a0,a1,a2⟩ ⟨b0,b1,b2⟩ h
  simpa [E57,and_assoc] using h
def R57 (x : (List Int)×Int×Int) (y : Int×Int×Int) : PV×List (List Cell):=(.tup [.one (.v (.int .u64 y.1)),.one (.v (.int .i64 y.2.1)),.one (.v (.int .i64 y.2.2))],[])
noncomputable def G57:=lift E57 fun x=>(Lcodec_Size x.1 x.2.1 x.2.2).map (R57 x)
theorem G57_eq {a0 : (List Int)} {a1 : Int} {a2 : Int} {y : Int×Int×Int} (h : Lcodec_Size a0 a1 a2 = some y) : G57 (E57 (a0,a1,a2)) = some (R57 (a0,a1,a2) y):=lift_som E57i h
noncomputable abbrev K58 : Con ((List Int)×Int×Int) ((List Int)×Int×Int):=⟨fun x=>[.one (.slice .no (intsR .u8 x.1)),.one (.v (.int .i64 x.2.1)),.one (.v (.int .i64 x.2.2))],fun _ y=>(.tup [.one (.slice .no (intsR .u8 y.1)),.one (.v (.int .i64 y.2.1)),.one (.v (.int .i64 y.2.2))],[]),fun x=>Lcodec_Bytes x.1 x.2.1 x.2.2⟩
theorem i58 : K58.Inj:=by intro a b h; simpa [K58,Prod.ext_iff,and_assoc] using h
theorem G58_eq {a0 a1 a2 y} (h : Lcodec_Bytes a0 a1 a2 = some y) : K58.G (K58.E (a0,a1,a2)) = some (K58.R (a0,a1,a2) y):=i58.eq h
noncomputable abbrev K59 : Con ((List Int)×Int) Int:=⟨fun x=>[.one (.slice .no (intsR .u8 x.1)),.one (.v (.int .i64 x.2))],fun _ y=>(.one (.v (.int .i64 y)),[]),fun x=>Lcodec_End x.1 x.2⟩
theorem i59 : K59.Inj:=by intro a b h; simpa [K59,Prod.ext_iff,and_assoc] using h
theorem G59_eq {a0 a1 y} (h : Lcodec_End a0 a1 = some y) : K59.G (K59.E (a0,a1)) = some (K59.R (a0,a1) y):=i59.eq h
noncomputable abbrev K27 : Con ((List Int)) (Tapi_Filter×Int):=⟨fun x=>[.one (.slice .no (intsR .u8 x))],fun _ y=>(.tup [.agg ([.v (.int .i64 y.1.1),.slice .no (intsR .u8 y.1.2)]),.one (.v (.int .i64 y.2))],[]),fun x=>Lfilter_Decode x⟩
theorem i27 : K27.Inj:=by intro a b h; simpa [K27,Prod.ext_iff,and_assoc] using h
theorem G27_eq {a0 y} (h : Lfilter_Decode a0 = some y) : K27.G (K27.E a0) = some (K27.R a0 y):=i27.eq h
noncomputable abbrev K82 : Con ((List Int)×(List Int)) ((List Int)):=⟨fun x=>[.one (.slice .no (intsR .u8 x.1)),.one (.slice .no (intsR .u8 x.2))],fun _ y=>(.one (.own 1 (intsR .u8 y)),[]),fun x=>Lref01_joined x.1 x.2⟩
theorem i82 : K82.Inj:=by intro a b h; simpa [K82,Prod.ext_iff,and_assoc] using h
theorem G82_eq {a0 a1 y} (h : Lref01_joined a0 a1 = some y) : K82.G (K82.E (a0,a1)) = some (K82.R (a0,a1) y):=i82.eq h
noncomputable abbrev K96 : Con (Int×Int) ((List Int)):=⟨fun x=>[.one (.v (.int .u64 x.1)),.one (.v (.int .i64 x.2))],fun _ y=>(.one (.own 1 (intsR .u8 y)),[]),fun x=>Lref01_little x.1 x.2⟩
theorem i96 : K96.Inj:=by intro a b h; simpa [K96,Prod.ext_iff,and_assoc] using h
theorem G96_eq {a0 a1 y} (h : Lref01_little a0 a1 = some y) : K96.G (K96.E (a0,a1)) = some (K96.R (a0,a1) y):=i96.eq h
noncomputable abbrev K61 : Con ((List Int)×Int) ((List Int)):=⟨fun x=>[.one (.slice .no (intsR .u8 x.1)),.one (.v (.int .u64 x.2))],fun _ y=>(.one (.own 1 (intsR .u8 y)),[]),fun x=>Lref01_AppendSize x.1 x.2⟩
theorem i61 : K61.Inj:=by intro a b h; simpa [K61,Prod.ext_iff,and_assoc] using h
theorem G61_eq {a0 a1 y} (h : Lref01_AppendSize a0 a1 = some y) : K61.G (K61.E (a0,a1)) = some (K61.R (a0,a1) y):=i61.eq h
noncomputable abbrev K60 : Con ((List Int)×(List Int)) ((List Int)):=⟨fun x=>[.one (.slice .no (intsR .u8 x.1)),.one (.slice .no (intsR .u8 x.2))],fun _ y=>(.one (.own 1 (intsR .u8 y)),[]),fun x=>Lref01_AppendBytes x.1 x.2⟩
theorem i60 : K60.Inj:=by intro a b h; simpa [K60,Prod.ext_iff,and_assoc] using h
theorem G60_eq {a0 a1 y} (h : Lref01_AppendBytes a0 a1 = some y) : K60.G (K60.E (a0,a1)) = some (K60.R (a0,a1) y):=i60.eq h
noncomputable abbrev K28 : Con Tapi_Filter ((List Int)×Int):=⟨fun x=>[.agg ([.v (.int .i64 x.1),.slice .no (intsR .u8 x.2)])],fun _ y=>(.tup [.one (.slice .no (intsR .u8 y.1)),.one (.v (.int .i64 y.2))],[]),fun x=>Lref20_Encode x⟩
theorem i28 : K28.Inj:=by intro a b h; simpa [K28,Prod.ext_iff,and_assoc] using h
theorem G28_eq {a0 y} (h : Lref20_Encode a0 = some y) : K28.G (K28.E a0) = some (K28.R a0 y):=i28.eq h
noncomputable abbrev K104 : Con ((List Int)×Int×Int) (Int×Int×Int):=⟨fun x=>[.one (.slice .no (intsR .u8 x.1)),.one (.v (.int .i64 x.2.1)),.one (.v (.int .i64 x.2.2))],fun _ y=>(.tup [.one (.v (.int .u64 y.1)),.one (.v (.int .i64 y.2.1)),.one (.v (.int .i64 y.2.2))],[]),fun x=>Lref01_number x.1 x.2.1 x.2.2⟩
theorem i104 : K104.Inj:=by intro a b h; simpa [K104,Prod.ext_iff,and_assoc] using h
theorem G104_eq {a0 a1 a2 y} (h : Lref01_number a0 a1 a2 = some y) : K104.G (K104.E (a0,a1,a2)) = some (K104.R (a0,a1,a2) y):=i104.eq h
noncomputable abbrev K62 : Con ((List Int)×Int×Int) (Int×Int×Int):=⟨fun x=>[.one (.slice .no (intsR .u8 x.1)),.one (.v (.int .i64 x.2.1)),.one (.v (.int .u64 x.2.2))],fun _ y=>(.tup [.one (.v (.int .u64 y.1)),.one (.v (.int .i64 y.2.1)),.one (.v (.int .i64 y.2.2))],[]),fun x=>Lref01_Size x.1 x.2.1 x.2.2⟩
theorem i62 : K62.Inj:=by intro a b h; simpa [K62,Prod.ext_iff,and_assoc] using h
theorem G62_eq {a0 a1 a2 y} (h : Lref01_Size a0 a1 a2 = some y) : K62.G (K62.E (a0,a1,a2)) = some (K62.R (a0,a1,a2) y):=i62.eq h
noncomputable abbrev K63 : Con ((List Int)×Int×Int) ((List Int)×Int×Int):=⟨fun x=>[.one (.slice .no (intsR .u8 x.1)),.one (.v (.int .i64 x.2.1)),.one (.v (.int .i64 x.2.2))],fun _ y=>(.tup [.one (.slice .no (intsR .u8 y.1)),.one (.v (.int .i64 y.2.1)),.one (.v (.int .i64 y.2.2))],[]),fun x=>Lref01_Bytes x.1 x.2.1 x.2.2⟩
theorem i63 : K63.Inj:=by intro a b h; simpa [K63,Prod.ext_iff,and_assoc] using h
theorem G63_eq {a0 a1 a2 y} (h : Lref01_Bytes a0 a1 a2 = some y) : K63.G (K63.E (a0,a1,a2)) = some (K63.R (a0,a1,a2) y):=i63.eq h
noncomputable abbrev K64 : Con ((List Int)×Int) Int:=⟨fun x=>[.one (.slice .no (intsR .u8 x.1)),.one (.v (.int .i64 x.2))],fun _ y=>(.one (.v (.int .i64 y)),[]),fun x=>Lref01_End x.1 x.2⟩
theorem i64 : K64.Inj:=by intro a b h; simpa [K64,Prod.ext_iff,and_assoc] using h
theorem G64_eq {a0 a1 y} (h : Lref01_End a0 a1 = some y) : K64.G (K64.E (a0,a1)) = some (K64.R (a0,a1) y):=i64.eq h
noncomputable abbrev K29 : Con ((List Int)) (Tapi_Filter×Int):=⟨fun x=>[.one (.slice .no (intsR .u8 x))],fun _ y=>(.tup [.agg ([.v (.int .i64 y.1.1),.slice .no (intsR .u8 y.1.2)]),.one (.v (.int .i64 y.2))],[]),fun x=>Lref20_Decode x⟩
theorem i29 : K29.Inj:=by intro a b h; simpa [K29,Prod.ext_iff,and_assoc] using h
theorem G29_eq {a0 y} (h : Lref20_Decode a0 = some y) : K29.G (K29.E a0) = some (K29.R a0 y):=i29.eq h
noncomputable abbrev K153 : Con ((List (List Int))) ((List Int)):=⟨fun x=>[.one (.slice .no (List.map eS_I_u8 x))],fun _ y=>(.one (.own 1 (intsR .u8 y)),[]),fun x=>Lsha_row x⟩
theorem i153 : K153.Inj:=by intro a b h; simpa [K153,Prod.ext_iff,and_assoc] using h
theorem G153_eq {a0 y} (h : Lsha_row a0 = some y) : K153.G (K153.E a0) = some (K153.R a0 y):=i153.eq h
noncomputable abbrev K154 : Con Int ((List Int)):=⟨fun x=>[.one (.v (.int .u64 x))],fun _ y=>(.one (.own 1 (intsR .u8 y)),[]),fun x=>Lsha_Pad x⟩
theorem i154 : K154.Inj:=by intro a b h; simpa [K154,Prod.ext_iff,and_assoc] using h
theorem G154_eq {a0 y} (h : Lsha_Pad a0 = some y) : K154.G (K154.E a0) = some (K154.R a0 y):=i154.eq h
noncomputable abbrev K227 : Con (Int×Int) Int:=⟨fun x=>[.one (.v (.int .u32 x.1)),.one (.v (.int .i64 x.2))],fun _ y=>(.one (.v (.int .u32 y)),[]),fun x=>Lmath_bits_RotateLeft32 x.1 x.2⟩
theorem i227 : K227.Inj:=by intro a b h; simpa [K227,Prod.ext_iff,and_assoc] using h
theorem G227_eq {a0 a1 y} (h : Lmath_bits_RotateLeft32 a0 a1 = some y) : K227.G (K227.E (a0,a1)) = some (K227.R (a0,a1) y):=i227.eq h
noncomputable abbrev K198 : Con (Int×Int) Int:=⟨fun x=>[.one (.v (.int .u32 x.1)),.one (.v (.int .i64 x.2))],fun _ y=>(.one (.v (.int .u32 y)),[]),fun x=>Lsha_rotr x.1 x.2⟩
theorem i198 : K198.Inj:=by intro a b h; simpa [K198,Prod.ext_iff,and_assoc] using h
theorem G198_eq {a0 a1 y} (h : Lsha_rotr a0 a1 = some y) : K198.G (K198.E (a0,a1)) = some (K198.R (a0,a1) y):=i198.eq h
noncomputable abbrev K197 : Con ((Arr 64)) ((Arr 64)):=⟨fun x=>[.agg (arC .u8 x)],fun _ y=>(.agg (arC .u32 y),[]),fun x=>Lsha_schedule x⟩
theorem i197 : K197.Inj:=by intro a b h; simpa [K197,Prod.ext_iff,and_assoc] using h
theorem G197_eq {a0 y} (h : Lsha_schedule a0 = some y) : K197.G (K197.E a0) = some (K197.R a0 y):=i197.eq h
noncomputable abbrev K155 : Con ((Arr 8)×(Arr 64)) ((Arr 8)):=⟨fun x=>[.agg (arC .u32 x.1),.agg (arC .u8 x.2)],fun _ y=>(.agg (arC .u32 y),[]),fun x=>Lsha_Compress x.1 x.2⟩
theorem i155 : K155.Inj:=by intro a b h; simpa [K155,Prod.ext_iff,and_assoc] using h
theorem G155_eq {a0 a1 y} (h : Lsha_Compress a0 a1 = some y) : K155.G (K155.E (a0,a1)) = some (K155.R (a0,a1) y):=i155.eq h
noncomputable abbrev K105 : Con ((List Int)) ((Arr 32)):=⟨fun x=>[.one (.slice .no (intsR .u8 x))],fun _ y=>(.agg (arC .u8 y),[]),fun x=>Lsha_Sum x⟩
theorem i105 : K105.Inj:=by intro a b h; simpa [K105,Prod.ext_iff,and_assoc] using h
theorem G105_eq {a0 y} (h : Lsha_Sum a0 = some y) : K105.G (K105.E a0) = some (K105.R a0 y):=i105.eq h
noncomputable abbrev K65 : Con ((List Int)) ((Arr 32)):=⟨fun x=>[.one (.slice .no (intsR .u8 x))],fun _ y=>(.agg (arC .u8 y),[]),fun x=>Lsha_Double x⟩
theorem i65 : K65.Inj:=by intro a b h; simpa [K65,Prod.ext_iff,and_assoc] using h
theorem G65_eq {a0 y} (h : Lsha_Double a0 = some y) : K65.G (K65.E a0) = some (K65.R a0 y):=i65.eq h
noncomputable abbrev K30 : Con Tapi_Filter ((Arr 32)):=⟨fun x=>[.agg ([.v (.int .i64 x.1),.slice .no (intsR .u8 x.2)])],fun _ y=>(.agg (arC .u8 y),[]),fun x=>Lfilter_Hash x⟩
theorem i30 : K30.Inj:=by intro a b h; simpa [K30,Prod.ext_iff,and_assoc] using h
theorem G30_eq {a0 y} (h : Lfilter_Hash a0 = some y) : K30.G (K30.E a0) = some (K30.R a0 y):=i30.eq h
noncomputable abbrev K146 : Con Int ((List Int)):=⟨fun x=>[.one (.v (.int .u64 x))],fun _ y=>(.one (.own 1 (intsR .u8 y)),[]),fun x=>Lref03_Pad x⟩
theorem i146 : K146.Inj:=by intro a b h; simpa [K146,Prod.ext_iff,and_assoc] using h
theorem G146_eq {a0 y} (h : Lref03_Pad a0 = some y) : K146.G (K146.E a0) = some (K146.R a0 y):=i146.eq h
noncomputable abbrev K147 : Con Unit ((Arr 8)):=⟨fun _=>[],fun _ y=>(.agg (arC .u32 y),[]),fun _=>Lref03_Initial⟩
theorem i147 : K147.Inj:=fun _ _ _=>rfl
theorem G147_eq { y} (h : Lref03_Initial  = some y) : K147.G (K147.E ()) = some (K147.R () y):=i147.eq h
noncomputable abbrev K195 : Con (Int×Int) Int:=⟨fun x=>[.one (.v (.int .u32 x.1)),.one (.v (.int .i64 x.2))],fun _ y=>(.one (.v (.int .u32 y)),[]),fun x=>Lref03_rotr x.1 x.2⟩
theorem i195 : K195.Inj:=by intro a b h; simpa [K195,Prod.ext_iff,and_assoc] using h
theorem G195_eq {a0 a1 y} (h : Lref03_rotr a0 a1 = some y) : K195.G (K195.E (a0,a1)) = some (K195.R (a0,a1) y):=i195.eq h
noncomputable abbrev K193 : Con ((Arr 64)) ((Arr 64)):=⟨fun x=>[.agg (arC .u8 x)],fun _ y=>(.agg (arC .u32 y),[]),fun x=>Lref03_schedule x⟩
theorem i193 : K193.Inj:=by intro a b h; simpa [K193,Prod.ext_iff,and_assoc] using h
theorem G193_eq {a0 y} (h : Lref03_schedule a0 = some y) : K193.G (K193.E a0) = some (K193.R a0 y):=i193.eq h
noncomputable abbrev K194 : Con Unit ((Arr 64)):=⟨fun _=>[],fun _ y=>(.agg (arC .u32 y),[]),fun _=>Lref03_constants⟩
theorem i194 : K194.Inj:=fun _ _ _=>rfl
theorem G194_eq { y} (h : Lref03_constants  = some y) : K194.G (K194.E ()) = some (K194.R () y):=i194.eq h
def E148 (x : (Arr 8)×(Arr 64)) : List PV:=[.agg (arC .u32 x.1),.agg (arC .u8 x.2)]
theorem E148i : ∀ a b,E148 a = E148 b→a = b:=by
  rintro ⟨a0,a1⟩ ⟨b0,b1⟩ h
  simpa [E148,and_assoc] using h
def R148 (x : (Arr 8)×(Arr 64)) (y : (Arr 8)) : PV×List (List Cell):=(.agg (arC .u32 y),[])
noncomputable def G148:=lift E148 fun x=>(Lref03_Compress x.1 x.2).map (R148 x)
theorem G148_eq {a0 : (Arr 8)} {a1 : (Arr 64)} {y : (Arr 8)} (h : Lref03_Compress a0 a1 = some y) : G148 (E148 (a0,a1)) = some (R148 (a0,a1) y):=lift_som E148i h
def E95 (x : (List Int)) : List PV:=[.one (.slice .no (intsR .u8 x))]
theorem E95i : ∀ a b,E95 a = E95 b→a = b:=by
  rintro a0 b0 h
  simpa [E95,and_assoc] using h
def R95 (x : (List Int)) (y : (Arr 32)) : PV×List (List Cell):=(.agg (arC .u8 y),[])
noncomputable def G95:=lift E95 fun x=>(Lref03_Sum x).map (R95 x)
theorem G95_eq {a0 : (List Int)} {y : (Arr 32)} (h : Lref03_Sum a0 = some y) : G95 (E95 a0) = some (R95 a0 y):=lift_som E95i h
noncomputable abbrev K51 : Con ((List Int)) ((Arr 32)):=⟨fun x=>[.one (.slice .no (intsR .u8 x))],fun _ y=>(.agg (arC .u8 y),[]),fun x=>Lref03_Double x⟩
theorem i51 : K51.Inj:=by intro a b h; simpa [K51,Prod.ext_iff,and_assoc] using h
theorem G51_eq {a0 y} (h : Lref03_Double a0 = some y) : K51.G (K51.E a0) = some (K51.R a0 y):=i51.eq h
noncomputable abbrev K31 : Con Tapi_Filter ((Arr 32)):=⟨fun x=>[.agg ([.v (.int .i64 x.1),.slice .no (intsR .u8 x.2)])],fun _ y=>(.agg (arC .u8 y),[]),fun x=>Lref20_Hash x⟩
theorem i31 : K31.Inj:=by intro a b h; simpa [K31,Prod.ext_iff,and_assoc] using h
theorem G31_eq {a0 y} (h : Lref20_Hash a0 = some y) : K31.G (K31.E a0) = some (K31.R a0 y):=i31.eq h
def G106 : List PV→Option (PV×List (List Cell))
  | [.one (.slice .nil []),.one (.v (.int .i64 n))]=>if 0≤n∧n≤70368744177664 then some (.one (.own 1 []),[]) else none
  | _=>none
theorem G106_eq {n : Int} (h : 0≤n∧n≤70368744177664) : G106 [.one (.slice .nil []),.one (.v (.int .i64 n))] = some (.one (.own 1 []),[]):=by
  simp [G106,h]
def E66 (x : (List (List Int))) : List PV:=[.one (.slice .no (List.map eS_I_u8 x))]
theorem E66i : ∀ a b,E66 a = E66 b→a = b:=by
  rintro a0 b0 h
  simpa [E66,and_assoc] using h
def R66 (x : (List (List Int))) (y : (List Int)) : PV×List (List Cell):=(.one (.own 1 (intsR .u8 y)),[])
noncomputable def G66:=lift E66 fun x=>(Lslices_Concat_of__byte_byte x).map (R66 x)
theorem G66_eq {a0 : (List (List Int))} {y : (List Int)} (h : Lslices_Concat_of__byte_byte a0 = some y) : G66 (E66 a0) = some (R66 a0 y):=lift_som E66i h
noncomputable abbrev K32 : Con ((Arr 32)×(Arr 32)) ((Arr 32)):=⟨fun x=>[.agg (arC .u8 x.1),.agg (arC .u8 x.2)],fun _ y=>(.agg (arC .u8 y),[]),fun x=>Lfilter_Header x.1 x.2⟩
theorem i32 : K32.Inj:=by intro a b h; simpa [K32,Prod.ext_iff,and_assoc] using h
theorem G32_eq {a0 a1 y} (h : Lfilter_Header a0 a1 = some y) : K32.G (K32.E (a0,a1)) = some (K32.R (a0,a1) y):=i32.eq h
noncomputable abbrev K45 : Con ((List (List Int))) ((List Int)):=⟨fun x=>[.one (.slice .no (List.map eS_I_u8 x))],fun _ y=>(.one (.own 1 (intsR .u8 y)),[]),fun x=>Lref01_Join x⟩
theorem i45 : K45.Inj:=by intro a b h; simpa [K45,Prod.ext_iff,and_assoc] using h
theorem G45_eq {a0 y} (h : Lref01_Join a0 = some y) : K45.G (K45.E a0) = some (K45.R a0 y):=i45.eq h
noncomputable abbrev K33 : Con ((Arr 32)×(Arr 32)) ((Arr 32)):=⟨fun x=>[.agg (arC .u8 x.1),.agg (arC .u8 x.2)],fun _ y=>(.agg (arC .u8 y),[]),fun x=>Lref20_Header x.1 x.2⟩
theorem i33 : K33.Inj:=by intro a b h; simpa [K33,Prod.ext_iff,and_assoc] using h
theorem G33_eq {a0 a1 y} (h : Lref20_Header a0 a1 = some y) : K33.G (K33.E (a0,a1)) = some (K33.R (a0,a1) y):=i33.eq h
def E8 (x : Tapi_Filter×(List Int)×(Arr 32)×(Arr 32)) : List PV:=[.agg ([.v (.int .i64 x.1.1),.slice .no (intsR .u8 x.1.2)]),.one (.slice .no (intsR .u8 x.2.1)),.agg (arC .u8 x.2.2.1),.agg (arC .u8 x.2.2.2)]
theorem E8i : ∀ a b,E8 a = E8 b→a = b:=by
  rintro ⟨⟨a0_0,a0_1⟩,a1,a2,a3⟩ ⟨⟨b0_0,b0_1⟩,b1,b2,b3⟩ h
  simpa [E8,and_assoc] using h
def R8 (x : Tapi_Filter×(List Int)×(Arr 32)×(Arr 32)) (y : Bool) : PV×List (List Cell):=(.one (.v (.bool y)),[])
noncomputable def G8:=lift E8 fun x=>(Llaw20_FilterEncodes_c x.1 x.2.1 x.2.2.1 x.2.2.2).map (R8 x)
theorem G8_eq {a0 : Tapi_Filter} {a1 : (List Int)} {a2 : (Arr 32)} {a3 : (Arr 32)} {y : Bool} (h : Llaw20_FilterEncodes_c a0 a1 a2 a3 = some y) : G8 (E8 (a0,a1,a2,a3)) = some (R8 (a0,a1,a2,a3) y):=lift_som E8i h
noncomputable abbrev K53 : Con ((List Int)×Int) ((List Int)):=⟨fun x=>[.one (.slice .no (intsR .u8 x.1)),.one (.v (.int .u32 x.2))],fun _ y=>(.one (.own 1 (intsR .u8 y)),[]),fun x=>Lref01_AppendU32 x.1 x.2⟩
theorem i53 : K53.Inj:=by intro a b h; simpa [K53,Prod.ext_iff,and_assoc] using h
theorem G53_eq {a0 a1 y} (h : Lref01_AppendU32 a0 a1 = some y) : K53.G (K53.E (a0,a1)) = some (K53.R (a0,a1) y):=i53.eq h
noncomputable abbrev K54 : Con ((List Int)×(Arr 32)) ((List Int)):=⟨fun x=>[.one (.slice .no (intsR .u8 x.1)),.agg (arC .u8 x.2)],fun _ y=>(.one (.own 1 (intsR .u8 y)),[]),fun x=>Lref01_AppendHash x.1 x.2⟩
theorem i54 : K54.Inj:=by intro a b h; simpa [K54,Prod.ext_iff,and_assoc] using h
theorem G54_eq {a0 a1 y} (h : Lref01_AppendHash a0 a1 = some y) : K54.G (K54.E (a0,a1)) = some (K54.R (a0,a1) y):=i54.eq h
noncomputable abbrev K52 : Con Tapi_Header ((List Int)):=⟨fun x=>[.agg ((.v (.int .u32 x.1)) :: ((arC .u8 x.2.1)++((arC .u8 x.2.2.1)++((.v (.int .u32 x.2.2.2.1)) :: ((.v (.int .u32 x.2.2.2.2.1)) :: ((.v (.int .u32 x.2.2.2.2.2)) :: []))))))],fun _ y=>(.one (.own 1 (intsR .u8 y)),[]),fun x=>Lref11_EncodeHeader x⟩
theorem i52 : K52.Inj:=by intro a b h; simpa [K52,Prod.ext_iff,and_assoc] using h
theorem G52_eq {a0 y} (h : Lref11_EncodeHeader a0 = some y) : K52.G (K52.E a0) = some (K52.R a0 y):=i52.eq h
noncomputable abbrev K22 : Con Tapi_Header ((Arr 32)):=⟨fun x=>[.agg ((.v (.int .u32 x.1)) :: ((arC .u8 x.2.1)++((arC .u8 x.2.2.1)++((.v (.int .u32 x.2.2.2.1)) :: ((.v (.int .u32 x.2.2.2.2.1)) :: ((.v (.int .u32 x.2.2.2.2.2)) :: []))))))],fun _ y=>(.agg (arC .u8 y),[]),fun x=>Lref11_Hash x⟩
theorem i22 : K22.Inj:=by intro a b h; simpa [K22,Prod.ext_iff,and_assoc] using h
theorem G22_eq {a0 y} (h : Lref11_Hash a0 = some y) : K22.G (K22.E a0) = some (K22.R a0 y):=i22.eq h
noncomputable abbrev K81 : Con ((List Int)×(Arr 32)) ((List Int)):=⟨fun x=>[.one (.slice .no (intsR .u8 x.1)),.agg (arC .u8 x.2)],fun _ y=>(.one (.own 1 (intsR .u8 y)),[]),fun x=>Lcodec_AppendHash x.1 x.2⟩
theorem i81 : K81.Inj:=by intro a b h; simpa [K81,Prod.ext_iff,and_assoc] using h
theorem G81_eq {a0 a1 y} (h : Lcodec_AppendHash a0 a1 = some y) : K81.G (K81.E (a0,a1)) = some (K81.R (a0,a1) y):=i81.eq h
noncomputable abbrev K67 : Con Tapi_Header ((List Int)):=⟨fun x=>[.agg ((.v (.int .u32 x.1)) :: ((arC .u8 x.2.1)++((arC .u8 x.2.2.1)++((.v (.int .u32 x.2.2.2.1)) :: ((.v (.int .u32 x.2.2.2.2.1)) :: ((.v (.int .u32 x.2.2.2.2.2)) :: []))))))],fun _ y=>(.one (.own 1 (intsR .u8 y)),[]),fun x=>Lblock_EncodeHeader x⟩
theorem i67 : K67.Inj:=by intro a b h; simpa [K67,Prod.ext_iff,and_assoc] using h
theorem G67_eq {a0 y} (h : Lblock_EncodeHeader a0 = some y) : K67.G (K67.E a0) = some (K67.R a0 y):=i67.eq h
noncomputable abbrev K37 : Con Tapi_Header ((Arr 32)):=⟨fun x=>[.agg ((.v (.int .u32 x.1)) :: ((arC .u8 x.2.1)++((arC .u8 x.2.2.1)++((.v (.int .u32 x.2.2.2.1)) :: ((.v (.int .u32 x.2.2.2.2.1)) :: ((.v (.int .u32 x.2.2.2.2.2)) :: []))))))],fun _ y=>(.agg (arC .u8 y),[]),fun x=>Lblock_Hash x⟩
theorem i37 : K37.Inj:=by intro a b h; simpa [K37,Prod.ext_iff,and_assoc] using h
theorem G37_eq {a0 y} (h : Lblock_Hash a0 = some y) : K37.G (K37.E a0) = some (K37.R a0 y):=i37.eq h
def E42 (x : (List Int)) : List PV:=[.one (.slice .no (intsR .u8 x))]
theorem E42i : ∀ a b,E42 a = E42 b→a = b:=by
  rintro a0 b0 h
  simpa [E42,and_assoc] using h
def R42 (x : (List Int)) (y : (List Int)) : PV×List (List Cell):=(.one (.own 1 (intsR .u8 y)),[])
noncomputable def G42:=lift E42 fun x=>(Lslices_Clone_bytes x).map (R42 x)
theorem G42_eq {a0 : (List Int)} {y : (List Int)} (h : Lslices_Clone_bytes a0 = some y) : G42 (E42 a0) = some (R42 a0 y):=lift_som E42i h
def E210 (x : Int) : List PV:=[.one (.v (.int .u64 x))]
theorem E210i : ∀ a b,E210 a = E210 b→a = b:=by
  rintro a0 b0 h
  simpa [E210,and_assoc] using h
def R210 (x : Int) (y : Int) : PV×List (List Cell):=(.one (.v (.int .i64 y)),[])
noncomputable def G210:=lift E210 fun x=>(Lmath_bits_Len64 x).map (R210 x)
theorem G210_eq {a0 : Int} {y : Int} (h : Lmath_bits_Len64 a0 = some y) : G210 (E210 a0) = some (R210 a0 y):=lift_som E210i h
noncomputable abbrev K191 : Con ((Arr 4)×Int) Bool:=⟨fun x=>[.agg (arC .u64 x.1),.one (.v (.int .i64 x.2))],fun _ y=>(.one (.v (.bool y)),[]),fun x=>Lref02_Bit x.1 x.2⟩
theorem i191 : K191.Inj:=by intro a b h; simpa [K191,Prod.ext_iff,and_assoc] using h
theorem G191_eq {a0 a1 y} (h : Lref02_Bit a0 a1 = some y) : K191.G (K191.E (a0,a1)) = some (K191.R (a0,a1) y):=i191.eq h
noncomputable abbrev K143 : Con ((Arr 4)×Int) ((Arr 4)):=⟨fun x=>[.agg (arC .u64 x.1),.one (.v (.int .i64 x.2))],fun _ y=>(.agg (arC .u64 y),[]),fun x=>Lref02_Shr x.1 x.2⟩
theorem i143 : K143.Inj:=by intro a b h; simpa [K143,Prod.ext_iff,and_assoc] using h
theorem G143_eq {a0 a1 y} (h : Lref02_Shr a0 a1 = some y) : K143.G (K143.E (a0,a1)) = some (K143.R (a0,a1) y):=i143.eq h
noncomputable abbrev K192 : Con ((Arr 4)) Bool:=⟨fun x=>[.agg (arC .u64 x)],fun _ y=>(.one (.v (.bool y)),[]),fun x=>Lref02_Zero x⟩
theorem i192 : K192.Inj:=by intro a b h; simpa [K192,Prod.ext_iff,and_assoc] using h
theorem G192_eq {a0 y} (h : Lref02_Zero a0 = some y) : K192.G (K192.E a0) = some (K192.R a0 y):=i192.eq h
noncomputable abbrev K222 : Con Int ((Arr 4)):=⟨fun x=>[.one (.v (.int .u64 x))],fun _ y=>(.agg (arC .u64 y),[]),fun x=>Lref02_FromUint x⟩
theorem i222 : K222.Inj:=by intro a b h; simpa [K222,Prod.ext_iff,and_assoc] using h
theorem G222_eq {a0 y} (h : Lref02_FromUint a0 = some y) : K222.G (K222.E a0) = some (K222.R a0 y):=i222.eq h
noncomputable abbrev K225 : Con ((Arr 4)) Int:=⟨fun x=>[.agg (arC .u64 x)],fun _ y=>(.one (.v (.int .i64 y)),[]),fun x=>Lref02_Len x⟩
theorem i225 : K225.Inj:=by intro a b h; simpa [K225,Prod.ext_iff,and_assoc] using h
theorem G225_eq {a0 y} (h : Lref02_Len a0 = some y) : K225.G (K225.E a0) = some (K225.R a0 y):=i225.eq h
def E237 (x : Int×Int×Int) : List PV:=[.one (.v (.int .u64 x.1)),.one (.v (.int .u64 x.2.1)),.one (.v (.int .u64 x.2.2))]
theorem E237i : ∀ a b,E237 a = E237 b→a = b:=by
  rintro ⟨a0,a1,a2⟩ ⟨b0,b1,b2⟩ h
  simpa [E237,and_assoc] using h
def R237 (x : Int×Int×Int) (y : Int×Int) : PV×List (List Cell):=(.tup [.one (.v (.int .u64 y.1)),.one (.v (.int .u64 y.2))],[])
noncomputable def G237:=lift E237 fun x=>(Lmath_bits_Add64 x.1 x.2.1 x.2.2).map (R237 x)
theorem G237_eq {a0 : Int} {a1 : Int} {a2 : Int} {y : Int×Int} (h : Lmath_bits_Add64 a0 a1 a2 = some y) : G237 (E237 (a0,a1,a2)) = some (R237 (a0,a1,a2) y):=lift_som E237i h
noncomputable abbrev K238 : Con ((Arr 4)×(Arr 4)) ((Arr 4)×Bool):=⟨fun x=>[.agg (arC .u64 x.1),.agg (arC .u64 x.2)],fun _ y=>(.tup [.agg (arC .u64 y.1),.one (.v (.bool y.2))],[]),fun x=>Lref02_Add x.1 x.2⟩
theorem i238 : K238.Inj:=by intro a b h; simpa [K238,Prod.ext_iff,and_assoc] using h
theorem G238_eq {a0 a1 y} (h : Lref02_Add a0 a1 = some y) : K238.G (K238.E (a0,a1)) = some (K238.R (a0,a1) y):=i238.eq h
noncomputable abbrev K226 : Con ((Arr 4)×Int) ((Arr 4)):=⟨fun x=>[.agg (arC .u64 x.1),.one (.v (.int .i64 x.2))],fun _ y=>(.agg (arC .u64 y),[]),fun x=>Lref02_Shl x.1 x.2⟩
theorem i226 : K226.Inj:=by intro a b h; simpa [K226,Prod.ext_iff,and_assoc] using h
theorem G226_eq {a0 a1 y} (h : Lref02_Shl a0 a1 = some y) : K226.G (K226.E (a0,a1)) = some (K226.R (a0,a1) y):=i226.eq h
noncomputable abbrev K188 : Con Int ((Arr 4)×Int):=⟨fun x=>[.one (.v (.int .u32 x))],fun _ y=>(.tup [.agg (arC .u64 y.1),.one (.v (.int .i64 y.2))],[]),fun x=>Lref12_Expand x⟩
theorem i188 : K188.Inj:=by intro a b h; simpa [K188,Prod.ext_iff,and_assoc] using h
theorem G188_eq {a0 y} (h : Lref12_Expand a0 = some y) : K188.G (K188.E a0) = some (K188.R a0 y):=i188.eq h
noncomputable abbrev K189 : Con ((Arr 4)×(Arr 4)) Int:=⟨fun x=>[.agg (arC .u64 x.1),.agg (arC .u64 x.2)],fun _ y=>(.one (.v (.int .i64 y)),[]),fun x=>Lref02_Cmp x.1 x.2⟩
theorem i189 : K189.Inj:=by intro a b h; simpa [K189,Prod.ext_iff,and_assoc] using h
theorem G189_eq {a0 a1 y} (h : Lref02_Cmp a0 a1 = some y) : K189.G (K189.E (a0,a1)) = some (K189.R (a0,a1) y):=i189.eq h
noncomputable abbrev K190 : Con ((Arr 32)) ((Arr 4)):=⟨fun x=>[.agg (arC .u8 x)],fun _ y=>(.agg (arC .u64 y),[]),fun x=>Lref02_FromBytes x⟩
theorem i190 : K190.Inj:=by intro a b h; simpa [K190,Prod.ext_iff,and_assoc] using h
theorem G190_eq {a0 y} (h : Lref02_FromBytes a0 = some y) : K190.G (K190.E a0) = some (K190.R a0 y):=i190.eq h
end Go.Proofs.YthpkpciceodioaaGreatDoor
