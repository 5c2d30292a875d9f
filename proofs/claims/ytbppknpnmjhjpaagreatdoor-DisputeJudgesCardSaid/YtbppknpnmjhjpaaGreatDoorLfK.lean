import Derived.Test.YtbppknpnmjhjpaaGreatDoorLcG3
import Derived.Test.YtbppknpnmjhjpaaGreatDoorLcG1
import Derived.Test.YtbppknpnmjhjpaaGreatDoorLcG1
import Derived.Test.YtbppknpnmjhjpaaGreatDoorLcG4
import Derived.Test.YtbppknpnmjhjpaaGreatDoorTt
namespace Go.Proofs.YtbppknpnmjhjpaaGreatDoor
open Go.RowKit
open Go.Av
open Go.Lc
set_option maxRecDepth 100000
set_option linter.unusedSimpArgs false
set_option linter.unusedVariables false
attribute [simp] tt1 tt2 tt3 tt4 tt5 tt6 tt7 tt8 tt9 tt10 tt11 tt12 tt13 tt14 tt15 tt16 tt17 tt18 tt19 tt21 tt22 tt23 tt24 tt25 tt26 tt27 tt28 tt29 tt30 tt31 tt32 tt33 tt34 tt35 tt36 tt37 tt38 tt39 tt40 tt41 tt42 tt43 tt44 tt45 tt46 tt47 tt48 tt49 tt50 tt51 tt52 tt53 tt55 tt56 tt57 tt58 tt59 tt60 tt62 tt63 tt64 tt65 tt66 tt67 tt73 tt74 tt75 tt76 tt77 tt78 tt79 tt80 tt82 tt83 tt84 tt87 tt97 tt98 tt99 tt100 tt101 tt102 tt104 tt105 tt118 tt119 tt120 tt121 tt124 tt126 tt128 tt129 tt132 tt133 tt134 tt135 tt145 tt158 tt159 tt169 tt170 tt176 tt178 tt183 tt186 tt187 tt195 tt196 tt199 tt219 tt225 tt229 tt230 tt233 tt239 tt248 tt249 tt260 tt274 tt285 tt290 tt291 tt292 tt294 tt295 tt304 tt326 tt327 tt328 tt329 tt330 tt332 tt333 tt334 tt335 tt336 tt337 tt338 tt339 ti1 ti2 ti3 ti4 ti5 ti6 ti7 ti8 ti9 ti10 ti11 ti12 ti13 ti14 ti15 ti16 ti17 ti18 ti19 ti21 ti22 ti23 ti24 ti25 ti26 ti27 ti28 ti29 ti30 ti31 ti32 ti33 ti34 ti35 ti36 ti37 ti38 ti39 ti40 ti41 ti42 ti43 ti44 ti45 ti46 ti47 ti48 ti49 ti50 ti51 ti52 ti53 ti55 ti56 ti57 ti58 ti59 ti60 ti62 ti63 ti64 ti65 ti66 ti67 ti73 ti74 ti75 ti76 ti77 ti78 ti79 ti80 ti82 ti83 ti84 ti87 ti97 ti98 ti99 ti100 ti101 ti102 ti104 ti105 ti118 ti119 ti120 ti121 ti124 ti126 ti128 ti129 ti132 ti133 ti134 ti135 ti145 ti158 ti159 ti169 ti170 ti176 ti178 ti183 ti186 ti187 ti195 ti196 ti199 ti219 ti225 ti229 ti230 ti233 ti239 ti248 ti249 ti260 ti274 ti285 ti290 ti291 ti292 ti294 ti295 ti304 ti326 ti327 ti328 ti329 ti330 ti332 ti333 ti334 ti335 ti336 ti337 ti338 ti339
@[simp] theorem ZAZ {n:Nat}{k:IntKind}{l:List (Arr n)}:l.any ((fun l=>l.any Cell.isSl) ∘ arC k)=false:=by simp[arC,ints]
@[simp↓] theorem ZAF {k:IntKind}(m:List Int) (n:Nat):(∀ l,l∈List.drop n (Zf k m)→l.length=1)=True:=eq_true fun l h=>intsR_all l (List.mem_of_mem_drop h)
@[simp↓] theorem ZAG {k:IntKind}(m:List Int) (n:Nat):(∀ l,l∈List.take n (Zf k m)→l.length=1)=True:=eq_true fun l h=>intsR_all l (List.mem_of_mem_take h)
@[simp↓] theorem ZAH {k:IntKind}(m:List Int):(∀ l,l∈(Zf k m).tail→l.length=1)=True:=eq_true fun l h=>intsR_all l (List.mem_of_mem_tail h)
@[simp↓] theorem ZAa {k:IntKind}(m:List Int) (n:Nat):(∀ l,l∈List.take n (Zf k m).tail→l.length=1)=True:=eq_true fun l h=>intsR_all l (List.mem_of_mem_tail (List.mem_of_mem_take h))
@[simp↓] theorem ZAb {k:IntKind}(m:List Int) (n:Nat):(∀ l,l∈List.drop n (Zf k m).tail→l.length=1)=True:=eq_true fun l h=>intsR_all l (List.mem_of_mem_tail (List.mem_of_mem_drop h))
@[simp] theorem arC_z8:arC .u64 (zA 8)=arC .u64 (zA 4)++arC .u64 (zA 4):=rfl
@[simp] theorem arC_z12:arC .u64 (zA 12)=arC .u64 (zA 4)++(arC .u64 (zA 4)++arC .u64 (zA 4)):=rfl
theorem az64:arC .u8 (zA 64)=arC .u8 (zA 32)++arC .u8 (zA 32):=rfl
theorem bz4:List.map Zc.cell (zr 4 Zc.nil)=[.slice .nil [],.slice .nil [],.slice .nil [],.slice .nil []]:=rfl
theorem mzD (p:Arr 8):ZC (arC .u64 (zA 4)) 0 (List.drop 4 (Zf .u64 p.l)).flatten=arC .u64 ((zA 4).over (p.l.drop 4)):=by
  have h8:=p.hl
  have e:List.take (min (p.l.drop 4).length 4) (Zf .u64 (p.l.drop 4))=List.drop 4 (Zf .u64 p.l):=by
    have e1:Zf .u64 (p.l.drop 4)=List.drop 4 (Zf .u64 p.l):=by unfold Zf; rw[List.map_drop]
    rw[e1,List.take_of_length_le (by unfold Zf; rw[List.length_drop,List.length_drop,List.length_map]; omega)]
  rw[← e];exact Zpu
theorem mzT (p:Arr 8):ZC (arC .u64 (zA 4)) 0 (List.take 4 (Zf .u64 p.l)).flatten=arC .u64 ((zA 4).over (p.l.take 4)):=by
  have h8:=p.hl
  have e:List.take (min (p.l.take 4).length 4) (Zf .u64 (p.l.take 4))=List.take 4 (Zf .u64 p.l):=by
    have e1:Zf .u64 (p.l.take 4)=List.take 4 (Zf .u64 p.l):=by unfold Zf; rw[List.map_take]
    rw[e1,List.take_of_length_le (by unfold Zf; rw[List.length_take,List.length_take,List.length_map]; omega)]
  rw[← e];exact Zpu
theorem Zvg (a:Nat):(1+a≤a+1)=True:=eq_true (by omega)
@[simp] def eapi_OutPoint (x:Tapi_OutPoint):List Cell:=(arC .u8 x.1)++((.v (.int .u32 x.2)) :: [])
instance:EnC eapi_OutPoint 33:=enC
instance:EnP eapi_OutPoint:=enP
@[simp] def Y2 (x:Tapi_Output):List Cell:=[.v (.int .i64 x.1),.slice .no (Zf .u8 x.2)]
instance:EnC Y2 2:=enC
@[simp] def Z2 (x:(List Int)):List Cell:=[.slice .no (Zf .u8 x)]
instance:EnC Z2 1:=enC
@[simp] def Zby (x:Tapi_Input):List Cell:=(arC .u8 x.1.1)++((.v (.int .u32 x.1.2)) :: ((.v (.int .u32 x.2.1)) :: ((.slice .no (List.map Z2 x.2.2)) :: [])))
instance:EnC Zby 35:=enC
@[simp] def ZO (x:Tapi_Tx):List Cell:=[.v (.int .u32 x.1),.slice .no (List.map Zby x.2.1),.slice .no (List.map Y2 x.2.2.1),.v (.int .u32 x.2.2.2)]
instance:EnC ZO 4:=enC
@[simp] def Zg2 (x:(List (Arr 32))):List Cell:=[.slice .no (List.map (arC .u8) x)]
instance:EnC Zg2 1:=enC
@[simp] def Zs (x:Tapi_Coin):List Cell:=(arC .u8 x.1.1)++((.v (.int .u32 x.1.2)) :: ((.v (.int .i64 x.2.1.1)) :: ((.slice .no (Zf .u8 x.2.1.2)) :: ((.v (.int .i64 x.2.2.1)) :: ((.v (.bool x.2.2.2)) :: [])))))
instance:EnC Zs 37:=enC
@[simp] def eapi_Checkpoint (x:Tapi_Checkpoint):List Cell:=(.v (.int .i64 x.1)) :: (arC .u8 x.2)
instance:EnC eapi_Checkpoint 33:=enC
instance:EnP eapi_Checkpoint:=enP
@[simp] def YH (x:Tapi_Params):List Cell:=(.v (.int .u32 x.1.1)) :: ((arC .u8 x.1.2.1)++((arC .u8 x.1.2.2.1)++((.v (.int .u32 x.1.2.2.2.1)) :: ((.v (.int .u32 x.1.2.2.2.2.1)) :: ((.v (.int .u32 x.1.2.2.2.2.2)) :: ((arC .u64 x.2.1)++((.v (.int .i64 x.2.2.1)) :: ((.v (.int .u32 x.2.2.2.1)) :: ((.v (.int .u32 x.2.2.2.2.1)) :: ((.v (.int .u32 x.2.2.2.2.2.1)) :: ((.slice .no (List.map eapi_Checkpoint x.2.2.2.2.2.2.1)) :: ((.v (.int .i64 x.2.2.2.2.2.2.2.1)) :: ((.v (.int .i64 x.2.2.2.2.2.2.2.2.1)) :: ((.v (.int .i64 x.2.2.2.2.2.2.2.2.2)) :: []))))))))))))))
instance:EnC YH 80:=enC
@[simp] def eapi_Header (x:Tapi_Header):List Cell:=(.v (.int .u32 x.1)) :: ((arC .u8 x.2.1)++((arC .u8 x.2.2.1)++((.v (.int .u32 x.2.2.2.1)) :: ((.v (.int .u32 x.2.2.2.2.1)) :: ((.v (.int .u32 x.2.2.2.2.2)) :: [])))))
instance:EnC eapi_Header 68:=enC
instance:EnP eapi_Header:=enP
@[simp] def YO (x:Tapi_Context):List Cell:=(.v (.int .i64 x.1)) :: ((arC .u8 x.2.1)++((.v (.int .u32 x.2.2.1)) :: ((.v (.int .u32 x.2.2.2.1)) :: ((.slice .no (Zf .u32 x.2.2.2.2)) :: []))))
instance:EnC YO 36:=enC
@[simp] def Xw (x:Tapi_Ledger):List Cell:=(.v (.int .i64 x.1)) :: ((arC .u8 x.2.1)++((.slice .no (List.map Zs x.2.2)) :: []))
instance:EnC Xw 34:=enC
@[simp] def Yh (x:Tapi_Block):List Cell:=(.v (.int .u32 x.1.1)) :: ((arC .u8 x.1.2.1)++((arC .u8 x.1.2.2.1)++((.v (.int .u32 x.1.2.2.2.1)) :: ((.v (.int .u32 x.1.2.2.2.2.1)) :: ((.v (.int .u32 x.1.2.2.2.2.2)) :: ((.slice .no (List.map ZO x.2)) :: []))))))
instance:EnC Yh 69:=enC
@[simp] def eapi_Env (x:Tapi_Env):List Cell:=(arC .u8 x.1)++((.v (.int .i64 x.2.1)) :: ((.v (.int .i64 x.2.2)) :: []))
instance:EnC eapi_Env 34:=enC
instance:EnP eapi_Env:=enP
@[simp] def ZfU (x:(List Tapi_Coin)):List Cell:=[.slice .no (List.map Zs x)]
instance:EnC ZfU 1:=enC
@[simp] def eapi_Claim (x:Tapi_Claim):List Cell:=(.v (.int .i64 x.1)) :: (arC .u8 x.2)
instance:EnC eapi_Claim 33:=enC
instance:EnP eapi_Claim:=enP
@[simp] def Zdv (x:Tapi_Bits):List Cell:=[.slice .no (Zf .u8 x.1),.v (.int .i64 x.2)]
instance:EnC Zdv 2:=enC
@[simp] def Zag (x:Tapi_Filter):List Cell:=[.v (.int .i64 x.1),.slice .no (Zf .u8 x.2)]
instance:EnC Zag 2:=enC
@[simp] def ZaH (x:Tapi_Dispute):List Cell:=(.v (.int .i64 x.1)) :: ((.v (.int .i64 x.2.1)) :: ((arC .u8 x.2.2.1)++((.slice .no (List.map eapi_Claim x.2.2.2)) :: [])))
instance:EnC ZaH 35:=enC
theorem nfs:(∀ x:Tapi_OutPoint,eapi_OutPoint x=(arC .u8 x.1)++((.v (.int .u32 x.2)) :: []))∧(∀ x:Tapi_Output,Y2 x=[.v (.int .i64 x.1),.slice .no (Zf .u8 x.2)])∧(∀ x:(List Int),Z2 x=[.slice .no (Zf .u8 x)])∧(∀ x:Tapi_Input,Zby x=(arC .u8 x.1.1)++((.v (.int .u32 x.1.2)) :: ((.v (.int .u32 x.2.1)) :: ((.slice .no (List.map Z2 x.2.2)) :: []))))∧(∀ x:Tapi_Tx,ZO x=[.v (.int .u32 x.1),.slice .no (List.map Zby x.2.1),.slice .no (List.map Y2 x.2.2.1),.v (.int .u32 x.2.2.2)])∧(∀ x:(List (Arr 32)),Zg2 x=[.slice .no (List.map (arC .u8) x)])∧(∀ x:Tapi_Coin,Zs x=(arC .u8 x.1.1)++((.v (.int .u32 x.1.2)) :: ((.v (.int .i64 x.2.1.1)) :: ((.slice .no (Zf .u8 x.2.1.2)) :: ((.v (.int .i64 x.2.2.1)) :: ((.v (.bool x.2.2.2)) :: []))))))∧(∀ x:Tapi_Checkpoint,eapi_Checkpoint x=(.v (.int .i64 x.1)) :: (arC .u8 x.2))∧(∀ x:Tapi_Params,YH x=(.v (.int .u32 x.1.1)) :: ((arC .u8 x.1.2.1)++((arC .u8 x.1.2.2.1)++((.v (.int .u32 x.1.2.2.2.1)) :: ((.v (.int .u32 x.1.2.2.2.2.1)) :: ((.v (.int .u32 x.1.2.2.2.2.2)) :: ((arC .u64 x.2.1)++((.v (.int .i64 x.2.2.1)) :: ((.v (.int .u32 x.2.2.2.1)) :: ((.v (.int .u32 x.2.2.2.2.1)) :: ((.v (.int .u32 x.2.2.2.2.2.1)) :: ((.slice .no (List.map eapi_Checkpoint x.2.2.2.2.2.2.1)) :: ((.v (.int .i64 x.2.2.2.2.2.2.2.1)) :: ((.v (.int .i64 x.2.2.2.2.2.2.2.2.1)) :: ((.v (.int .i64 x.2.2.2.2.2.2.2.2.2)) :: [])))))))))))))))∧(∀ x:Tapi_Header,eapi_Header x=(.v (.int .u32 x.1)) :: ((arC .u8 x.2.1)++((arC .u8 x.2.2.1)++((.v (.int .u32 x.2.2.2.1)) :: ((.v (.int .u32 x.2.2.2.2.1)) :: ((.v (.int .u32 x.2.2.2.2.2)) :: []))))))∧(∀ x:Tapi_Context,YO x=(.v (.int .i64 x.1)) :: ((arC .u8 x.2.1)++((.v (.int .u32 x.2.2.1)) :: ((.v (.int .u32 x.2.2.2.1)) :: ((.slice .no (Zf .u32 x.2.2.2.2)) :: [])))))∧(∀ x:Tapi_Ledger,Xw x=(.v (.int .i64 x.1)) :: ((arC .u8 x.2.1)++((.slice .no (List.map Zs x.2.2)) :: [])))∧(∀ x:Tapi_Block,Yh x=(.v (.int .u32 x.1.1)) :: ((arC .u8 x.1.2.1)++((arC .u8 x.1.2.2.1)++((.v (.int .u32 x.1.2.2.2.1)) :: ((.v (.int .u32 x.1.2.2.2.2.1)) :: ((.v (.int .u32 x.1.2.2.2.2.2)) :: ((.slice .no (List.map ZO x.2)) :: [])))))))∧(∀ x:Tapi_Env,eapi_Env x=(arC .u8 x.1)++((.v (.int .i64 x.2.1)) :: ((.v (.int .i64 x.2.2)) :: [])))∧(∀ x:(List Tapi_Coin),ZfU x=[.slice .no (List.map Zs x)])∧(∀ x:Tapi_Claim,eapi_Claim x=(.v (.int .i64 x.1)) :: (arC .u8 x.2))∧(∀ x:Tapi_Bits,Zdv x=[.slice .no (Zf .u8 x.1),.v (.int .i64 x.2)])∧(∀ x:Tapi_Filter,Zag x=[.v (.int .i64 x.1),.slice .no (Zf .u8 x.2)])∧(∀ x:Tapi_Dispute,ZaH x=(.v (.int .i64 x.1)) :: ((.v (.int .i64 x.2.1)) :: ((arC .u8 x.2.2.1)++((.slice .no (List.map eapi_Claim x.2.2.2)) :: [])))):=⟨fun _=>rfl,fun _=>rfl,fun _=>rfl,fun _=>rfl,fun _=>rfl,fun _=>rfl,fun _=>rfl,fun _=>rfl,fun _=>rfl,fun _=>rfl,fun _=>rfl,fun _=>rfl,fun _=>rfl,fun _=>rfl,fun _=>rfl,fun _=>rfl,fun _=>rfl,fun _=>rfl,fun _=>rfl⟩
@[simp] def Zmn (x:ByteArray×Bool):List Cell:=([.v (.string x.1)])++([.v (.bool x.2)])
theorem eM_Str_B_he:∀ a b:ByteArray,kEq ([.v (.string a)]) ([.v (.string b)])=decide (a=b):=by
  rintro a b
  rw[Bool.eq_iff_iff];simp[kEq,kEq1]
@[simp] theorem ZzN {k0:ByteArray}{l:List (ByteArray×Bool)}:Zhk 1 ([.v (.string k0)]) (List.map Zmn l)=Option.map (fun v:Bool=>([.v (.bool v)]:List Cell)) (XY k0 l):=ZnA (eK:=(fun k:ByteArray=>([.v (.string k)]:List Cell))) (eV:=(fun v:Bool=>([.v (.bool v)]:List Cell))) (fun k=>by simp) eM_Str_B_he k0 l
@[simp] theorem ZzO {k0:ByteArray}{v0:Bool}{l:List (ByteArray×Bool)}:Zhl 1 ([.v (.string k0)]) ([.v (.bool v0)]) (List.map Zmn l)=List.map Zmn (ZbU k0 v0 l):=ZnB (eK:=(fun k:ByteArray=>([.v (.string k)]:List Cell))) (eV:=(fun v:Bool=>([.v (.bool v)]:List Cell))) (fun k=>by simp) eM_Str_B_he k0 v0 l
@[simp] theorem ZAc (o:Option Bool):(Option.map (fun v:Bool=>([.v (.bool v)]:List Cell)) o).getD ([.v (.bool false)])=[.v (.bool (o.getD false))]:=by cases o <;> rfl
@[simp] theorem Zzc {k0:ByteArray}{v0:Bool}:Zhl 1 ([.v (.string k0)]) ([.v (.bool v0)]) []=List.map Zmn (ZbU k0 v0 []):=rfl
@[simp] def Zas (x:Tapi_OutPoint×Bool):List Cell:=((arC .u8 x.1.1)++((.v (.int .u32 x.1.2)) :: []))++([.v (.bool x.2)])
theorem eM_api_OutPoint_B_he:∀ a b:Tapi_OutPoint,kEq ((arC .u8 a.1)++((.v (.int .u32 a.2)) :: [])) ((arC .u8 b.1)++((.v (.int .u32 b.2)) :: []))=decide (a=b):=by
  rintro⟨a_0,a_1⟩ ⟨b_0,b_1⟩
  rw[Bool.eq_iff_iff];simp[kEq,kEq1]
@[simp] theorem Zt4 {k0:(Arr 32)}{k1:Int}{l:List (Tapi_OutPoint×Bool)}:Zhk 33 ((arC .u8 k0)++((.v (.int .u32 k1)) :: [])) (List.map Zas l)=Option.map (fun v:Bool=>([.v (.bool v)]:List Cell)) (XY (k0,k1) l):=ZnA (eK:=(fun k:Tapi_OutPoint=>((arC .u8 k.1)++((.v (.int .u32 k.2)) :: []):List Cell))) (eV:=(fun v:Bool=>([.v (.bool v)]:List Cell))) (fun k=>by simp) eM_api_OutPoint_B_he (k0,k1) l
@[simp] theorem Zt5 {k0:(Arr 32)}{k1:Int}{v0:Bool}{l:List (Tapi_OutPoint×Bool)}:Zhl 33 ((arC .u8 k0)++((.v (.int .u32 k1)) :: [])) ([.v (.bool v0)]) (List.map Zas l)=List.map Zas (ZbU (k0,k1) v0 l):=ZnB (eK:=(fun k:Tapi_OutPoint=>((arC .u8 k.1)++((.v (.int .u32 k.2)) :: []):List Cell))) (eV:=(fun v:Bool=>([.v (.bool v)]:List Cell))) (fun k=>by simp) eM_api_OutPoint_B_he (k0,k1) v0 l
@[simp] theorem Zvh (o:Option Bool):(Option.map (fun v:Bool=>([.v (.bool v)]:List Cell)) o).getD ([.v (.bool false)])=[.v (.bool (o.getD false))]:=by cases o <;> rfl
@[simp] theorem Ztt {k0:(Arr 32)}{k1:Int}{v0:Bool}:Zhl 33 ((arC .u8 k0)++((.v (.int .u32 k1)) :: [])) ([.v (.bool v0)]) []=List.map Zas (ZbU (k0,k1) v0 []):=rfl
@[simp] def Zdh (x:(Arr 32)×Int):List Cell:=(arC .u8 x.1)++([.v (.int .i64 x.2)])
theorem eM_A32_I_u8_I_i64_he:∀ a b:(Arr 32),kEq (arC .u8 a) (arC .u8 b)=decide (a=b):=by
  rintro a b
  rw[Bool.eq_iff_iff];simp[kEq,kEq1]
@[simp] theorem Zt6 {k0:(Arr 32)}{l:List ((Arr 32)×Int)}:Zhk 32 (arC .u8 k0) (List.map Zdh l)=Option.map (fun v:Int=>([.v (.int .i64 v)]:List Cell)) (XY k0 l):=ZnA (eK:=(fun k:(Arr 32)=>(arC .u8 k:List Cell))) (eV:=(fun v:Int=>([.v (.int .i64 v)]:List Cell))) (fun k=>by simp) eM_A32_I_u8_I_i64_he k0 l
@[simp] theorem Zt7 {k0:(Arr 32)}{v0:Int}{l:List ((Arr 32)×Int)}:Zhl 32 (arC .u8 k0) ([.v (.int .i64 v0)]) (List.map Zdh l)=List.map Zdh (ZbU k0 v0 l):=ZnB (eK:=(fun k:(Arr 32)=>(arC .u8 k:List Cell))) (eV:=(fun v:Int=>([.v (.int .i64 v)]:List Cell))) (fun k=>by simp) eM_A32_I_u8_I_i64_he k0 v0 l
@[simp] theorem Zvi (o:Option Int):(Option.map (fun v:Int=>([.v (.int .i64 v)]:List Cell)) o).getD ([.v (.int .i64 0)])=[.v (.int .i64 (o.getD 0))]:=by cases o <;> rfl
@[simp] theorem Ztu {k0:(Arr 32)}{v0:Int}:Zhl 32 (arC .u8 k0) ([.v (.int .i64 v0)]) []=List.map Zdh (ZbU k0 v0 []):=rfl
theorem bN {α β:Type}{o:Option α}{f:α→Option β}{y:β}{P P':α→Prop}(h:o.bind f=some y) (k:∀ {x},o=some x→P x) (n:∀ x,P x→P' x:=by intro x h; try simp only[kS,nf,nfs,Yi] at h; exact h):∃ x,P' x∧f x=some y :=
  let ⟨x,h1,h2⟩:=bs h
  ⟨x,n x (k h1),h2⟩
theorem Zed {P R:Prop}(k:R) (h:∀ X:Prop,Zbt X R→Imp X P:=by
  intro X e
  repeat (first
    | (with_reducible refine Zgb ?_)
    | (with_reducible refine Zco ?_)
    | (with_reducible refine Zbu ?_)
    | (with_reducible refine Zcp ?_)
    | (with_reducible refine Zdq ?_)
    | (with_reducible refine Zgc ?_)
    | (with_reducible refine Zif ?_)
    | (with_reducible refine Zig ?_)
    | (with_reducible refine ZjT ?_)
    | (with_reducible refine YM ?_ ?_; · simp[-Int.ofNat_toNat,bV, *]; done)
    | (with_reducible refine YN ?_ ?_; · simp[-Int.ofNat_toNat,bV, *]; done)
    | (refine Zdp rfl (by first | (simp[-Int.ofNat_toNat,Nat.add_assoc,-Int.natCast_tdiv_eq_ediv, *] <;> rfl) | fail) ?_)
    | (refine Zcn rfl (by simp[-Int.ofNat_toNat,Nat.add_assoc,-Int.natCast_tdiv_eq_ediv, *]; first | exact⟨rfl,rfl⟩ | rfl) (by kernel_rfl) ?_)
    | (with_reducible refine ZaW ?_ ?_; · simp[-Int.ofNat_toNat,bV, *]; done)
    | (with_reducible refine ZaX ?_ ?_; · simp[-Int.ofNat_toNat,bV, *]; done)
    | (refine ZjS rfl (by first | (simp[-Int.ofNat_toNat,Nat.add_assoc,-Int.natCast_tdiv_eq_ediv, *] <;> rfl) | fail) ?_)
    | (refine Zie rfl (by simp[-Int.ofNat_toNat,Nat.add_assoc,-Int.natCast_tdiv_eq_ediv, *]; first | exact⟨rfl,rfl⟩ | rfl) (by kernel_rfl) ?_)
    | (refine Zgd ?_ (by simp only[pq,reduceCtorEq]; rfl)))
  exact Imp.of e):P:=h R ⟨rfl⟩ k
theorem goR {P R:Prop}(k:R) (h:∀ X:Prop,Zbt X R→Imp X P:=by
  intro X e
  repeat (first
    | (with_reducible refine Zgb ?_)
    | (with_reducible refine Zco ?_)
    | (with_reducible refine Zbu ?_)
    | (with_reducible refine Zcp ?_)
    | (with_reducible refine Zdq ?_)
    | (with_reducible refine Zgc ?_)
    | (with_reducible refine Zif ?_)
    | (with_reducible refine Zig ?_)
    | (with_reducible refine ZjT ?_)
    | (with_reducible refine YM ?_ ?_; · simp[-Int.ofNat_toNat,bV, *]; done)
    | (with_reducible refine YN ?_ ?_; · simp[-Int.ofNat_toNat,bV, *]; done)
    | (refine Zdp rfl (by first | (simp[-Int.ofNat_toNat,List.range,List.range.loop, *] <;> rfl) | fail) ?_)
    | (refine Zcn rfl (by simp[-Int.ofNat_toNat,List.range,List.range.loop, *]; first | exact⟨rfl,rfl⟩ | rfl) (by kernel_rfl) ?_)
    | (with_reducible refine ZaW ?_ ?_; · simp[-Int.ofNat_toNat,bV, *]; done)
    | (with_reducible refine ZaX ?_ ?_; · simp[-Int.ofNat_toNat,bV, *]; done)
    | (refine ZjS rfl (by first | (simp[-Int.ofNat_toNat,List.range,List.range.loop, *] <;> rfl) | fail) ?_)
    | (refine Zie rfl (by simp[-Int.ofNat_toNat,List.range,List.range.loop, *]; first | exact⟨rfl,rfl⟩ | rfl) (by kernel_rfl) ?_)
    | (refine Zgd ?_ (by simp only[pq,reduceCtorEq]; rfl)))
  exact Imp.of e):P:=h R ⟨rfl⟩ k
def G:Glob:=fun g=>if g=0 then some (arC .u32 shaInitial) else if g=1 then some (arC .u32 shaK) else none
@[simp] theorem G_at0:G 0=some (arC .u32 shaInitial):=rfl
@[simp] theorem G_at1:G 1=some (arC .u32 shaK):=rfl
noncomputable abbrev K5:=cn a0 (r1 eB) (fun(_:Unit)=>Llaw22_sane)
noncomputable abbrev K111:=cn (a1 (eI .u64)) (r1 (oL .u8)) Zh0
noncomputable abbrev K112:=cn a0 (r1 (eA .u32)) (fun(_:Unit)=>Lref03_Initial)
noncomputable abbrev K199:=cn (a2 (eI .u32) (eI .i64)) (r1 (eI .u32)) (u2 YS)
noncomputable abbrev K166:=cn (a2 (eI .u32) (eI .i64)) (r1 (eI .u32)) (u2 YZ)
noncomputable abbrev K164:=cn (a1 (eA .u8)) (r1 (eA .u32)) ZcJ
noncomputable abbrev K165:=cn a0 (r1 (eA .u32)) (fun(_:Unit)=>Lref03_constants)
def Ziw (x:(Arr 8)×(Arr 64)):List PV:=[.agg (arC .u32 x.1),.agg (arC .u8 x.2)]
theorem E113i:∀ a b,Ziw a=Ziw b→a=b:=by
  rintro⟨a0,a1⟩ ⟨b0,b1⟩ h
  simpa[Ziw,and_assoc] using h
def ZkA (x:(Arr 8)×(Arr 64)) (y:(Arr 8)):PV×List (List Cell):=(.agg (arC .u32 y),[])
noncomputable def G113:=XS Ziw fun x=>(XL x.1 x.2).map (ZkA x)
theorem Zt8 {a0:(Arr 8)}{a1:(Arr 64)}{y:(Arr 8)}(h:XL a0 a1=some y):G113 (Ziw (a0,a1))=some (ZkA (a0,a1) y):=Yw E113i h
def E57 (x:(List Int)):List PV:=[.one (.slice .no (Zf .u8 x))]
theorem E57i:∀ a b,E57 a=E57 b→a=b:=by
  rintro a0 b0 h
  simpa[E57,and_assoc] using h
def R57 (x:(List Int)) (y:(Arr 32)):PV×List (List Cell):=(.agg (arC .u8 y),[])
noncomputable def G57:=XS E57 fun x=>(Y7 x).map (R57 x)
theorem Zs2 {a0:(List Int)}{y:(Arr 32)}(h:Y7 a0=some y):G57 (E57 a0)=some (R57 a0 y):=Yw E57i h
noncomputable abbrev K25:=cn (a1 (eL .u8)) (r1 (eA .u8)) Zaf
noncomputable abbrev K114:=cn (a2 (eL .u8) (eL .u8)) (r1 (oL .u8)) (u2 Yf)
noncomputable abbrev K115:=cn (a2 (eI .u64) (eI .i64)) (r1 (oL .u8)) (u2 Yg)
noncomputable abbrev K58:=cn (a2 (eL .u8) (eI .u32)) (r1 (oL .u8)) (u2 Z3)
noncomputable abbrev K59:=cn (a2 (eL .u8) (eA .u8)) (r1 (oL .u8)) (u2 YC)
noncomputable abbrev K147:=cn (a1 (eG eapi_OutPoint)) (r1 (oL .u8)) Zbf
noncomputable abbrev K149:=cn (a2 (eL .u8) (eI .u64)) (r1 (oL .u8)) (u2 YB)
noncomputable abbrev K148:=cn (a2 (eL .u8) (eL .u8)) (r1 (oL .u8)) (u2 Xg)
noncomputable abbrev K212:=cn (a2 (eL .u8) (eI .u64)) (r1 (oL .u8)) (u2 ZbW)
noncomputable abbrev K183:=cn (a1 (eG Y2)) (r1 (oL .u8)) ZeH
noncomputable abbrev K139:=cn (a2 (eG ZO) eB) (r1 (oL .u8)) (u2 ZaI)
noncomputable abbrev K136:=cn (a1 (eG ZO)) (r1 eB) ZaE
noncomputable abbrev K140:=cn (a1 (eG ZO)) (r1 (eA .u8)) ZgS
noncomputable abbrev K88:=cn (a1 (eS Z2)) (r1 (oL .u8)) Y0
noncomputable abbrev K213:=cn (a2 (eA .u8) (eA .u8)) (r1 (eA .u8)) (u2 ZgT)
noncomputable abbrev K184:=cn (a1 (eS (arC .u8))) (r1 (oS 1 Zg2)) ZbN
noncomputable abbrev K141:=cn (a1 (eS (arC .u8))) (r1 (eA .u8)) Zds
noncomputable abbrev K84:=cn (a1 (eS ZO)) (r1 (eA .u8)) Zci
noncomputable abbrev K80:=cn (a1 (eG ZO)) (r1 (eA .u8)) ZfS
noncomputable abbrev K93:=cn (a1 (eI .u8)) (r1 (oL .u8)) Zbe
noncomputable abbrev K189:=cn (a1 (eL .u8)) (r1 (eS Z2)) Zjp
noncomputable abbrev K150:Con (Tapi_Coin×Int) (Tapi_Tx×Int):=cn (a2 (eG Zs) (eI .u8)) (fun _ y=>(.tup [.agg ([.v (.int .u32 y.1.1),.own 35 (List.map Zby y.1.2.1),.own 2 (List.map Y2 y.1.2.2.1),.v (.int .u32 y.1.2.2.2)]),.one (.v (.int .i64 y.2))],[])) (u2 ZgW)
def E90 (x:Tapi_Params×Tapi_Ledger×Int):List PV:=[.agg ((.v (.int .u32 x.1.1.1)) :: ((arC .u8 x.1.1.2.1)++((arC .u8 x.1.1.2.2.1)++((.v (.int .u32 x.1.1.2.2.2.1)) :: ((.v (.int .u32 x.1.1.2.2.2.2.1)) :: ((.v (.int .u32 x.1.1.2.2.2.2.2)) :: ((arC .u64 x.1.2.1)++((.v (.int .i64 x.1.2.2.1)) :: ((.v (.int .u32 x.1.2.2.2.1)) :: ((.v (.int .u32 x.1.2.2.2.2.1)) :: ((.v (.int .u32 x.1.2.2.2.2.2.1)) :: ((.slice .no (List.map eapi_Checkpoint x.1.2.2.2.2.2.2.1)) :: ((.v (.int .i64 x.1.2.2.2.2.2.2.2.1)) :: ((.v (.int .i64 x.1.2.2.2.2.2.2.2.2.1)) :: ((.v (.int .i64 x.1.2.2.2.2.2.2.2.2.2)) :: []))))))))))))))),.agg ((.v (.int .i64 x.2.1.1)) :: ((arC .u8 x.2.1.2.1)++((.slice .no (List.map Zs x.2.1.2.2)) :: []))),.one (.v (.int .u8 x.2.2))]
theorem E90i:∀ a b,E90 a=E90 b→a=b:=by
  rintro⟨⟨⟨a0_0_0,a0_0_1,a0_0_2,a0_0_3,a0_0_4,a0_0_5⟩,a0_1,a0_2,a0_3,a0_4,a0_5,a0_6,a0_7,a0_8,a0_9⟩,⟨a1_0,a1_1,a1_2⟩,a2⟩ ⟨⟨⟨b0_0_0,b0_0_1,b0_0_2,b0_0_3,b0_0_4,b0_0_5⟩,b0_1,b0_2,b0_3,b0_4,b0_5,b0_6,b0_7,b0_8,b0_9⟩,⟨b1_0,b1_1,b1_2⟩,b2⟩ h
  simpa[E90,and_assoc] using h
def R90 (x:Tapi_Params×Tapi_Ledger×Int) (y:(List Tapi_Tx)×Int):PV×List (List Cell):=(.tup [.one (.own 4 (List.map ZO y.1)),.one (.v (.int .i64 y.2))],[])
noncomputable def G90:=XS E90 fun x=>(YP x.1 x.2.1 x.2.2).map (R90 x)
theorem ZwI {a0:Tapi_Params}{a1:Tapi_Ledger}{a2:Int}{y:(List Tapi_Tx)×Int}(h:YP a0 a1 a2=some y):G90 (E90 (a0,a1,a2))=some (R90 (a0,a1,a2) y):=Yw E90i h
noncomputable abbrev K151:Con Unit Tapi_OutPoint:=cn a0 (r1 (eG eapi_OutPoint)) (fun(_:Unit)=>Lmade_Null)
noncomputable abbrev K91:Con (Int×Int×(List Int)) Tapi_Tx:=cn (a3 (eI .i64) (eI .i64) (eL .u8)) (fun _ y=>(.agg ([.v (.int .u32 y.1),.own 35 (List.map Zby y.2.1),.own 2 (List.map Y2 y.2.2.1),.v (.int .u32 y.2.2.2)]),[])) (u3 Zfv)
noncomputable abbrev K162:=cn (a2 (eA .u64) (eI .i64)) (r1 eB) (u2 Zbl)
noncomputable abbrev K108:=cn (a2 (eA .u64) (eI .i64)) (r1 (eA .u64)) (u2 Zbm)
noncomputable abbrev K163:=cn (a1 (eA .u64)) (r1 eB) Zcg
noncomputable abbrev K194:=cn (a1 (eI .u64)) (r1 (eA .u64)) Zav
noncomputable abbrev K197:=cn (a1 (eA .u64)) (r1 (eI .i64)) Zch
def Zll (x:Int×Int×Int):List PV:=[.one (.v (.int .u64 x.1)),.one (.v (.int .u64 x.2.1)),.one (.v (.int .u64 x.2.2))]
theorem E221i:∀ a b,Zll a=Zll b→a=b:=by
  rintro⟨a0,a1,a2⟩ ⟨b0,b1,b2⟩ h
  simpa[Zll,and_assoc] using h
def ZmQ (x:Int×Int×Int) (y:Int×Int):PV×List (List Cell):=(.tup [.one (.v (.int .u64 y.1)),.one (.v (.int .u64 y.2))],[])
noncomputable def G221:=XS Zll fun x=>(Xn x.1 x.2.1 x.2.2).map (ZmQ x)
theorem Zy1 {a0:Int}{a1:Int}{a2:Int}{y:Int×Int}(h:Xn a0 a1 a2=some y):G221 (Zll (a0,a1,a2))=some (ZmQ (a0,a1,a2) y):=Yw E221i h
noncomputable abbrev K222:Con ((Arr 4)×(Arr 4)) ((Arr 4)×Bool):=cn (a2 (eA .u64) (eA .u64)) (r2 (eA .u64) eB) (u2 Zf6)
noncomputable abbrev K198:=cn (a2 (eA .u64) (eI .i64)) (r1 (eA .u64)) (u2 Zf7)
noncomputable abbrev K159:Con Int ((Arr 4)×Int):=cn (a1 (eI .u32)) (r2 (eA .u64) (eI .i64)) ZbM
noncomputable abbrev K160:=cn (a2 (eA .u64) (eA .u64)) (r1 (eI .i64)) (u2 Xm)
noncomputable abbrev K110:=cn (a1 (eG YH)) (r1 eB) Xr
noncomputable abbrev K92:=cn (a2 (eG YH) (eI .i64)) (r1 (eI .i64)) (u2 Zb7)
noncomputable abbrev K26:=cn (a1 (eG eapi_Header)) (r1 (oL .u8)) XD
noncomputable abbrev K9:=cn (a1 (eG eapi_Header)) (r1 (eA .u8)) Xt
noncomputable abbrev K173:Con (Int×Int) (Int×Int):=cn (a2 (eI .u64) (eI .u64)) (r2 (eI .u64) (eI .u64)) (u2 Xk)
noncomputable abbrev K193:Con ((Arr 4)×(Arr 4)) ((Arr 4)×(Arr 4)):=cn (a2 (eA .u64) (eA .u64)) (r2 (eA .u64) (eA .u64)) (u2 Zh8)
def Zlm (x:Int×Int×Int):List PV:=[.one (.v (.int .u64 x.1)),.one (.v (.int .u64 x.2.1)),.one (.v (.int .u64 x.2.2))]
theorem E238i:∀ a b,Zlm a=Zlm b→a=b:=by
  rintro⟨a0,a1,a2⟩ ⟨b0,b1,b2⟩ h
  simpa[Zlm,and_assoc] using h
def ZmR (x:Int×Int×Int) (y:Int×Int):PV×List (List Cell):=(.tup [.one (.v (.int .u64 y.1)),.one (.v (.int .u64 y.2))],[])
noncomputable def G238:=XS Zlm fun x=>(ZaU x.1 x.2.1 x.2.2).map (ZmR x)
theorem Zy2 {a0:Int}{a1:Int}{a2:Int}{y:Int×Int}(h:ZaU a0 a1 a2=some y):G238 (Zlm (a0,a1,a2))=some (ZmR (a0,a1,a2) y):=Yw E238i h
noncomputable abbrev K223:Con ((Arr 4)×(Arr 4)) ((Arr 4)×Bool):=cn (a2 (eA .u64) (eA .u64)) (r2 (eA .u64) eB) (u2 Zh4)
noncomputable abbrev K195:Con ((Arr 4)×(Arr 4)×(Arr 4)) ((Arr 4)×(Arr 4)×Bool):=cn (a3 (eA .u64) (eA .u64) (eA .u64)) (r3 (eA .u64) (eA .u64) eB) (u3 Zh9)
noncomputable abbrev K196:=cn (a1 (eA .u64)) (r1 (eI .u32)) ZdG
noncomputable abbrev K158:Con (Tapi_Params×Int×Int×Int) (Int×Int):=cn (a4 (eG YH) (eI .u32) (eI .u32) (eI .u32)) (r2 (eI .u32) (eI .i64)) (u4 Zex)
noncomputable abbrev K104:Con (Tapi_Params×Tapi_Context) (Int×Int):=cn (a2 (eG YH) (eG YO)) (r2 (eI .u32) (eI .i64)) (u2 Zd9)
noncomputable abbrev K161:=cn (a1 (eA .u8)) (r1 (eA .u64)) ZaV
noncomputable abbrev K105:=cn (a2 (eA .u8) (eI .u32)) (r1 eB) (u2 Zd0)
noncomputable abbrev K106:=cn (a1 (eL .u32)) (r1 (eI .u32)) Zc7
noncomputable abbrev K94:Con (Tapi_Params×Tapi_Context×(Arr 32)×Int) Tapi_Header:=cn (a4 (eG YH) (eG YO) (eA .u8) (eI .u32)) (r1 (eG eapi_Header)) (u4 ZgX)
noncomputable abbrev K95:=cn (a1 (eI .u8)) (r1 (eI .u32)) Zgx
noncomputable abbrev K50:Con (Tapi_Params×Tapi_Ledger×Tapi_Context×Int) Tapi_Block:=cn (a4 (eG YH) (eG Xw) (eG YO) (eI .u8)) (fun _ y=>(.agg ((.v (.int .u32 y.1.1)) :: ((arC .u8 y.1.2.1)++((arC .u8 y.1.2.2.1)++((.v (.int .u32 y.1.2.2.2.1)) :: ((.v (.int .u32 y.1.2.2.2.2.1)) :: ((.v (.int .u32 y.1.2.2.2.2.2)) :: ((.own 4 (List.map ZO y.2)) :: []))))))),[])) (u4 ZfE)
noncomputable abbrev K182:Con (Tapi_Tx×Bool) ((List Int)×Int):=cn (a2 (eG ZO) eB) (r2 (eL .u8) (eI .i64)) (u2 Zeu)
noncomputable abbrev K137:=cn (a1 (eG Yh)) (r1 (oL .u8)) Zev
noncomputable abbrev K77:=cn (a1 (eG Yh)) (r1 eB) Zfa
noncomputable abbrev K138:=cn (a1 (eG eapi_OutPoint)) (r1 eB) Ze6
noncomputable abbrev K78:=cn (a1 (eG ZO)) (r1 eB) XJ
noncomputable abbrev K79:=cn (a1 (eG ZO)) (r1 (eI .i64)) ZdS
noncomputable abbrev K81:=cn (a2 (eS (arC .u8)) (eA .u8)) (r1 (eI .i64)) (u2 Zbo)
noncomputable abbrev K82:=cn (a2 (eG Yh) (eS (arC .u8))) (r1 eB) (u2 Za3)
noncomputable abbrev K83:=cn (a1 (eG Yh)) (r1 eB) Zcx
noncomputable abbrev K39:=cn (a1 (eG Yh)) (r1 (eI .i64)) X8
def Zix (x:Tapi_OutPoint×Tapi_OutPoint):List PV:=[.agg ((arC .u8 x.1.1)++((.v (.int .u32 x.1.2)) :: [])),.agg ((arC .u8 x.2.1)++((.v (.int .u32 x.2.2)) :: []))]
theorem E190i:∀ a b,Zix a=Zix b→a=b:=by
  rintro⟨⟨a0_0,a0_1⟩,⟨a1_0,a1_1⟩⟩ ⟨⟨b0_0,b0_1⟩,⟨b1_0,b1_1⟩⟩ h
  simpa[Zix,and_assoc] using h
def ZkB (x:Tapi_OutPoint×Tapi_OutPoint) (y:Int):PV×List (List Cell):=(.one (.v (.int .i64 y)),[])
noncomputable def G190:=XS Zix fun x=>(Xa x.1 x.2).map (ZkB x)
theorem Zt9 {a0:Tapi_OutPoint}{a1:Tapi_OutPoint}{y:Int}(h:Xa a0 a1=some y):G190 (Zix (a0,a1))=some (ZkB (a0,a1) y):=Yw E190i h
noncomputable abbrev K152:=cn (a1 (eG Xw)) (r1 eB) Zd4
def Ziy (x:Tapi_Tx×Int):List PV:=[.agg ([.v (.int .u32 x.1.1),.slice .no (List.map Zby x.1.2.1),.slice .no (List.map Y2 x.1.2.2.1),.v (.int .u32 x.1.2.2.2)]),.one (.v (.int .i64 x.2))]
theorem E153i:∀ a b,Ziy a=Ziy b→a=b:=by
  rintro⟨⟨a0_0,a0_1,a0_2,a0_3⟩,a1⟩ ⟨⟨b0_0,b0_1,b0_2,b0_3⟩,b1⟩ h
  simpa[Ziy,and_assoc] using h
def ZkC (x:Tapi_Tx×Int) (y:Bool):PV×List (List Cell):=(.one (.v (.bool y)),[])
noncomputable def G153:=XS Ziy fun x=>(ZaG x.1 x.2).map (ZkC x)
theorem Zua {a0:Tapi_Tx}{a1:Int}{y:Bool}(h:ZaG a0 a1=some y):G153 (Ziy (a0,a1))=some (ZkC (a0,a1) y):=Yw E153i h
noncomputable abbrev K96:=cn (a3 (eG YH) (eG Xw) (eG Yh)) (r1 (eI .i64)) (u3 Zfy)
noncomputable abbrev K100:=cn (a2 (eS Zs) (eG eapi_OutPoint)) (r1 (eI .i64)) (u2 Zdt)
noncomputable abbrev K154:Con Tapi_Coin Tapi_Coin:=cn (a1 (eG Zs)) (fun _ y=>(.agg ((arC .u8 y.1.1)++((.v (.int .u32 y.1.2)) :: ((.v (.int .i64 y.2.1.1)) :: ((.own 1 (Zf .u8 y.2.1.2)) :: ((.v (.int .i64 y.2.2.1)) :: ((.v (.bool y.2.2.2)) :: [])))))),[])) Zbr
noncomputable abbrev K97:Con (Tapi_Params×(List Tapi_Coin)×Tapi_Tx×Int) ((List Tapi_Coin)×Int):=cn (a4 (eG YH) (eS Zs) (eG ZO) (eI .i64)) (r2 (eS Zs) (eI .i64)) (u4 Zfz)
noncomputable abbrev K155:Con (Tapi_Tx×(List Tapi_Coin)) (Int×Int):=cn (a2 (eG ZO) (eS Zs)) (r2 (eI .i64) (eI .i64)) (u2 ZhZ)
def Zjk (x:ByteArray×(List Int)):List PV:=[.one (.v (.string x.1)),.one (.slice .no (Zf .u8 x.2))]
theorem E218i:∀ a b,Zjk a=Zjk b→a=b:=by
  rintro⟨a0,a1⟩ ⟨b0,b1⟩ h
  simpa[Zjk,and_assoc] using h
def Zln (x:ByteArray×(List Int)) (y:(Arr 32)):PV×List (List Cell):=(.agg (arC .u8 y),[])
noncomputable def G218:=XS Zjk fun x=>(ZaK x.1 x.2).map (Zln x)
theorem Zy3 {a0:ByteArray}{a1:(List Int)}{y:(Arr 32)}(h:ZaK a0 a1=some y):G218 (Zjk (a0,a1))=some (Zln (a0,a1) y):=Yw E218i h
noncomputable abbrev K191:Con (Tapi_Tx×Int×Tapi_Output) ((Arr 32)×Int):=cn (a3 (eG ZO) (eI .i64) (eG Y2)) (r2 (eA .u8) (eI .i64)) (u3 ZdH)
noncomputable abbrev K192:=cn (a3 (eL .u8) (eS Z2) (eG eapi_Env)) (r1 (eI .i64)) (u3 Za6)
noncomputable abbrev K156:=cn (a4 (eG ZO) (eI .i64) (eG Zs) (eI .i64)) (r1 (eI .i64)) (u4 ZfF)
noncomputable abbrev K98:Con (Tapi_Tx×(List Tapi_Coin)×Int) (Int×Int):=cn (a3 (eG ZO) (eS Zs) (eI .i64)) (r2 (eI .i64) (eI .i64)) (u3 ZfG)
noncomputable abbrev K99:=cn (a2 (eS Zs) (eI .i64)) (r1 (eS Zs)) (u2 ZdD)
noncomputable abbrev K103:=cn (a2 (eG ZO) (eI .i64)) (r1 (oS 37 Zs)) (u2 Za4)
def Zjl (x:(List Tapi_Coin)×Tapi_Coin):List PV:=[.one (.slice .no (List.map Zs x.1)),.agg ((arC .u8 x.2.1.1)++((.v (.int .u32 x.2.1.2)) :: ((.v (.int .i64 x.2.2.1.1)) :: ((.slice .no (Zf .u8 x.2.2.1.2)) :: ((.v (.int .i64 x.2.2.2.1)) :: ((.v (.bool x.2.2.2.2)) :: []))))))]
theorem E157i:∀ a b,Zjl a=Zjl b→a=b:=by
  rintro⟨a0,⟨⟨a1_0_0,a1_0_1⟩,⟨a1_1_0,a1_1_1⟩,a1_2,a1_3⟩⟩ ⟨b0,⟨⟨b1_0_0,b1_0_1⟩,⟨b1_1_0,b1_1_1⟩,b1_2,b1_3⟩⟩ h
  simpa[Zjl,and_assoc] using h
def Zlo (x:(List Tapi_Coin)×Tapi_Coin) (y:(List Tapi_Coin)):PV×List (List Cell):=(.one (.slice .no (List.map Zs y)),[])
noncomputable def G157:=XS Zjl fun x=>(Zcj x.1 x.2).map (Zlo x)
theorem Zy4 {a0:(List Tapi_Coin)}{a1:Tapi_Coin}{y:(List Tapi_Coin)}(h:Zcj a0 a1=some y):G157 (Zjl (a0,a1))=some (Zlo (a0,a1) y):=Yw E157i h
noncomputable abbrev K101:Con ((List Tapi_Coin)×Tapi_Tx×Int) ((List Tapi_Coin)×Int):=cn (a3 (eS Zs) (eG ZO) (eI .i64)) (r2 (eS Zs) (eI .i64)) (u3 Zh6)
noncomputable abbrev K102:=cn (a1 (eS Zs)) (r1 (eI .i64)) Zd5
noncomputable abbrev K51:Con (Tapi_Params×Tapi_Ledger×Tapi_Block) (Tapi_Ledger×(List Tapi_Coin)×Int):=cn (a3 (eG YH) (eG Xw) (eG Yh)) (r3 (eG Xw) (eG ZfU) (eI .i64)) (u3 ZcP)
noncomputable abbrev K107:=cn (a2 (eG YH) (eG YO)) (r1 eB) (u2 ZgU)
noncomputable abbrev K53:Con (Tapi_Params×Tapi_Context×Tapi_Header) (Tapi_Context×Int):=cn (a3 (eG YH) (eG YO) (eG eapi_Header)) (r2 (eG YO) (eI .i64)) (u3 Zb9)
noncomputable abbrev K52:=cn (a4 (eG YH) (eG YO) (eG eapi_Header) (eI .u32)) (r1 (eI .i64)) (u4 Zc8)
noncomputable abbrev K109:=cn (a1 (eA .u64)) (r1 (eA .u64)) ZjI
noncomputable abbrev K54:Con Int Tapi_Params:=cn (a1 (eI .u8)) (r1 (eG YH)) ZfA
noncomputable abbrev K55:Con Tapi_Params (Tapi_Ledger×Int):=cn (a1 (eG YH)) (r2 (eG Xw) (eI .i64)) ZfB
noncomputable abbrev K56:Con Tapi_Params (Tapi_Context×Int):=cn (a1 (eG YH)) (r2 (eG YO) (eI .i64)) ZfC
noncomputable abbrev K24:Con Int Tlightclientmade_World:=cn (a1 (eI .u8)) (fun _ y=>(.agg ((.v (.int .u32 y.1.1.1)) :: ((arC .u8 y.1.1.2.1)++((arC .u8 y.1.1.2.2.1)++((.v (.int .u32 y.1.1.2.2.2.1)) :: ((.v (.int .u32 y.1.1.2.2.2.2.1)) :: ((.v (.int .u32 y.1.1.2.2.2.2.2)) :: ((arC .u64 y.1.2.1)++((.v (.int .i64 y.1.2.2.1)) :: ((.v (.int .u32 y.1.2.2.2.1)) :: ((.v (.int .u32 y.1.2.2.2.2.1)) :: ((.v (.int .u32 y.1.2.2.2.2.2.1)) :: ((.slice .no (List.map eapi_Checkpoint y.1.2.2.2.2.2.2.1)) :: ((.v (.int .i64 y.1.2.2.2.2.2.2.2.1)) :: ((.v (.int .i64 y.1.2.2.2.2.2.2.2.2.1)) :: ((.v (.int .i64 y.1.2.2.2.2.2.2.2.2.2)) :: ((.slice .no (List.map Yh y.2.1)) :: ((.own 34 (List.map Xw y.2.2.1)) :: ((.own 36 (List.map YO y.2.2.2.1)) :: ((.slice .no (List.map ZfU y.2.2.2.2)) :: []))))))))))))))))))),[])) ZgV
def E23_1 (x:Tlightclientmade_World×(List Int)):List PV:=[.agg ((.v (.int .u32 x.1.1.1.1)) :: ((arC .u8 x.1.1.1.2.1)++((arC .u8 x.1.1.1.2.2.1)++((.v (.int .u32 x.1.1.1.2.2.2.1)) :: ((.v (.int .u32 x.1.1.1.2.2.2.2.1)) :: ((.v (.int .u32 x.1.1.1.2.2.2.2.2)) :: ((arC .u64 x.1.1.2.1)++((.v (.int .i64 x.1.1.2.2.1)) :: ((.v (.int .u32 x.1.1.2.2.2.1)) :: ((.v (.int .u32 x.1.1.2.2.2.2.1)) :: ((.v (.int .u32 x.1.1.2.2.2.2.2.1)) :: ((.slice .no (List.map eapi_Checkpoint x.1.1.2.2.2.2.2.2.1)) :: ((.v (.int .i64 x.1.1.2.2.2.2.2.2.2.1)) :: ((.v (.int .i64 x.1.1.2.2.2.2.2.2.2.2.1)) :: ((.v (.int .i64 x.1.1.2.2.2.2.2.2.2.2.2)) :: ((.slice .no (List.map Yh x.1.2.1)) :: ((.own 34 (List.map Xw x.1.2.2.1)) :: ((.own 36 (List.map YO x.1.2.2.2.1)) :: ((.slice .no (List.map ZfU x.1.2.2.2.2)) :: []))))))))))))))))))),.one (.slice .no (Zf .u8 x.2))]
instance:YJ E23_1:=⟨by intro a b h; simpa[E23_1,Prod.ext_iff,and_assoc] using h⟩
noncomputable abbrev K23_1:Con (Tlightclientmade_World×(List Int)) Tlightclientmade_World:=cn E23_1 (fun _ y=>(.agg ((.v (.int .u32 y.1.1.1)) :: ((arC .u8 y.1.1.2.1)++((arC .u8 y.1.1.2.2.1)++((.v (.int .u32 y.1.1.2.2.2.1)) :: ((.v (.int .u32 y.1.1.2.2.2.2.1)) :: ((.v (.int .u32 y.1.1.2.2.2.2.2)) :: ((arC .u64 y.1.2.1)++((.v (.int .i64 y.1.2.2.1)) :: ((.v (.int .u32 y.1.2.2.2.1)) :: ((.v (.int .u32 y.1.2.2.2.2.1)) :: ((.v (.int .u32 y.1.2.2.2.2.2.1)) :: ((.slice .no (List.map eapi_Checkpoint y.1.2.2.2.2.2.2.1)) :: ((.v (.int .i64 y.1.2.2.2.2.2.2.2.1)) :: ((.v (.int .i64 y.1.2.2.2.2.2.2.2.2.1)) :: ((.v (.int .i64 y.1.2.2.2.2.2.2.2.2.2)) :: ((.own 69 (List.map Yh y.2.1)) :: ((.own 34 (List.map Xw y.2.2.1)) :: ((.own 36 (List.map YO y.2.2.2.1)) :: ((.own 1 (List.map ZfU y.2.2.2.2)) :: []))))))))))))))))))),[])) (u2 ZgY)
noncomputable abbrev K6:Con (Int×(List Int)) Tlightclientmade_World:=cn (a2 (eI .u8) (eL .u8)) (fun _ y=>(.agg ((.v (.int .u32 y.1.1.1)) :: ((arC .u8 y.1.1.2.1)++((arC .u8 y.1.1.2.2.1)++((.v (.int .u32 y.1.1.2.2.2.1)) :: ((.v (.int .u32 y.1.1.2.2.2.2.1)) :: ((.v (.int .u32 y.1.1.2.2.2.2.2)) :: ((arC .u64 y.1.2.1)++((.v (.int .i64 y.1.2.2.1)) :: ((.v (.int .u32 y.1.2.2.2.1)) :: ((.v (.int .u32 y.1.2.2.2.2.1)) :: ((.v (.int .u32 y.1.2.2.2.2.2.1)) :: ((.slice .no (List.map eapi_Checkpoint y.1.2.2.2.2.2.2.1)) :: ((.v (.int .i64 y.1.2.2.2.2.2.2.2.1)) :: ((.v (.int .i64 y.1.2.2.2.2.2.2.2.2.1)) :: ((.v (.int .i64 y.1.2.2.2.2.2.2.2.2.2)) :: ((.own 69 (List.map Yh y.2.1)) :: ((.own 34 (List.map Xw y.2.2.1)) :: ((.own 36 (List.map YO y.2.2.2.1)) :: ((.own 1 (List.map ZfU y.2.2.2.2)) :: []))))))))))))))))))),[])) (u2 ZfH)
noncomputable abbrev K7:=cn (a2 (eL .u8) (eI .i64)) (r1 (eL .u8)) (u2 Zia)
noncomputable abbrev K8:=cn (a1 (eS eapi_Claim)) (r1 eB) ZiM
noncomputable abbrev K116:=cn (a2 (eL .u8) (eL .u8)) (r1 (oL .u8)) (u2 YK)
noncomputable abbrev K167:=cn (a2 (eI .u64) (eI .i64)) (r1 (oL .u8)) (u2 Xq)
noncomputable abbrev K117:=cn (a2 (eL .u8) (eI .u16)) (r1 (oL .u8)) (u2 ZbV)
noncomputable abbrev K118:=cn (a2 (eL .u8) (eI .u32)) (r1 (oL .u8)) (u2 Ya)
noncomputable abbrev K119:=cn (a2 (eL .u8) (eI .u64)) (r1 (oL .u8)) (u2 ZaN)
noncomputable abbrev K60:=cn (a2 (eL .u8) (eI .u64)) (r1 (oL .u8)) (u2 YA)
noncomputable abbrev K120:=cn (a2 (eL .u8) (eA .u8)) (r1 (oL .u8)) (u2 Xx)
noncomputable abbrev K61:=cn (a1 (eG eapi_Header)) (r1 (oL .u8)) XC
noncomputable abbrev K68:=cn (a1 (eG eapi_OutPoint)) (r1 (oL .u8)) ZfR
noncomputable abbrev K71:=cn (a2 (eL .u8) (eL .u8)) (r1 (oL .u8)) (u2 Xf)
noncomputable abbrev K122:=cn (a2 (eG ZO) eB) (r1 (oL .u8)) (u2 Zf1)
noncomputable abbrev K121:=cn (a1 (eG ZO)) (r1 eB) Zi8
noncomputable abbrev K62:Con (Tapi_Tx×Bool) ((List Int)×Int):=cn (a2 (eG ZO) eB) (r2 (eL .u8) (eI .i64)) (u2 Zdo)
noncomputable abbrev K27:Con Tapi_Block ((List Int)×Int):=cn (a1 (eG Yh)) (r2 (eL .u8) (eI .i64)) Zc6
noncomputable abbrev K63:=cn (a1 (eL .u8)) (r1 (eI .u64)) ZbK
noncomputable abbrev K28:=cn (a1 (eA .u8)) (r1 (eA .u64)) Zkd
noncomputable abbrev K129:=cn (a1 (eS Z2)) (r1 (oL .u8)) Zj9
noncomputable abbrev K130:=cn (a1 (eI .u64)) (r1 (oL .u8)) Zka
noncomputable abbrev K179:=cn (a2 (eI .u32) (eI .i64)) (r1 (eI .u32)) (u2 X4)
noncomputable abbrev K178:=cn (a1 (eA .u8)) (r1 (eA .u32)) Zeo
noncomputable abbrev K131:=cn (a2 (eA .u32) (eA .u8)) (r1 (eA .u32)) (u2 Zep)
noncomputable abbrev K69:=cn (a1 (eL .u8)) (r1 (eA .u8)) Zhr
noncomputable abbrev K32:=cn (a1 (eL .u8)) (r1 (eA .u8)) Zcf
noncomputable abbrev K29:=cn (a1 (eG eapi_Header)) (r1 (eA .u8)) Ze8
noncomputable abbrev K200:=cn (a1 (eI .u64)) (r1 eB) Zaj
noncomputable abbrev K168:=cn (a2 (eI .u64) (eI .u64)) (r1 eB) (u2 Y4)
noncomputable abbrev K123:=cn (a1 (eL .u64)) (r1 eB) Yc
noncomputable abbrev K169:=cn (a1 (eG Zdv)) (r1 eB) ZgN
noncomputable abbrev K170:Con Tapi_Bits Tapi_Bits:=cn (a1 (eG Zdv)) (fun _ y=>(.io ([.own 1 (Zf .u8 y.1),.v (.int .i64 y.2)]),[])) ZgO
def E171_2 (x:Tapi_Bits×Bool):List PV:=[.io ([.own 1 (Zf .u8 x.1.1),.v (.int .i64 x.1.2)]),.one (.v (.bool x.2))]
instance:YJ E171_2:=⟨by intro a b h; simpa[E171_2,Prod.ext_iff,and_assoc] using h⟩
noncomputable abbrev K171_2:Con (Tapi_Bits×Bool) Tapi_Bits:=cn E171_2 (fun _ y=>(.tup [],[[.own 1 (Zf .u8 y.1),.v (.int .i64 y.2)]])) (u2 X6)
def E172_3 (x:Tapi_Bits×Int×Int):List PV:=[.io ([.own 1 (Zf .u8 x.1.1),.v (.int .i64 x.1.2)]),.one (.v (.int .u64 x.2.1)),.one (.v (.int .i64 x.2.2))]
instance:YJ E172_3:=⟨by intro a b h; simpa[E172_3,Prod.ext_iff,and_assoc] using h⟩
noncomputable abbrev K172_3:Con (Tapi_Bits×Int×Int) Tapi_Bits:=cn E172_3 (fun _ y=>(.tup [],[[.own 1 (Zf .u8 y.1),.v (.int .i64 y.2)]])) (u3 ZaA)
noncomputable abbrev K124:Con (Tapi_Bits×Int×Int) (Tapi_Bits×Int):=cn (a3 (eG Zdv) (eI .u64) (eI .i64)) (r2 (eG Zdv) (eI .i64)) (u3 ZaS)
noncomputable abbrev K64:Con ((List Int)×Int) (Tapi_Filter×Int):=cn (a2 (eL .u64) (eI .i64)) (r2 (eG Zag) (eI .i64)) (u2 Zb2)
noncomputable abbrev K125:=cn (a2 (eI .u64) (eI .u64)) (r1 (eI .u64)) (u2 ZjF)
noncomputable abbrev K201:=cn (a2 (eI .u64) (eI .i64)) (r1 (eI .u64)) (u2 Zx)
noncomputable abbrev K175:=cn (a2 (eA .u64) (eI .i64)) (r1 (eA .u64)) (u2 ZgP)
noncomputable abbrev K174:=cn (a2 (eA .u64) (eI .u64)) (r1 (eA .u64)) (u2 Ze7)
noncomputable abbrev K126:=cn (a2 (eA .u64) (eL .u8)) (r1 (eI .u64)) (u2 Zkb)
def E49 (x:Int):List PV:=[.one (.v (.int .u64 x))]
theorem E49i:∀ a b,E49 a=E49 b→a=b:=by
  rintro a0 b0 h
  simpa[E49,and_assoc] using h
def R49 (x:Int) (y:Int):PV×List (List Cell):=(.one (.v (.int .i64 y)),[])
noncomputable def G49:=XS E49 fun x=>(Yx x).map (R49 x)
theorem ZzP {a0:Int}{y:Int}(h:Yx a0=some y):G49 (E49 a0)=some (R49 a0 y):=Yw E49i h
def E210 (x:Int):List PV:=[.one (.v (.int .u32 x))]
def R210 (x:Int) (y:Int):PV×List (List Cell):=(.one (.v (.int .i64 y)),[])
noncomputable def G210:=XS E210 fun x=>(Zl9 x).map (R210 x)
noncomputable abbrev K177:=cn (a1 (eI .u64)) (r1 (eI .i64)) ZdA
def Zdi (x:(List Int)×Int×Int):List PV:=[.rio 1 (Zf .u64 x.1),.one (.v (.int .i64 x.2.1)),.one (.v (.int .i64 x.2.2))]
theorem E202_4i:∀ a b,Zdi a=Zdi b→a=b:=by
  rintro⟨a0,a1,a2⟩ ⟨b0,b1,b2⟩ h
  simpa[Zdi,and_assoc] using h
def ZfP (x:(List Int)×Int×Int) (y:(List Int)):PV×List (List Cell):=(.tup [],[(Zf .u64 y).flatten])
noncomputable def G202_4:=XS Zdi fun x=>(Zw x.1 x.2.1 x.2.2).map (ZfP x)
theorem Zrv {a0:(List Int)}{a1:Int}{a2:Int}{y:(List Int)}(h:Zw a0 a1 a2=some y):G202_4 (Zdi (a0,a1,a2))=some (ZfP (a0,a1,a2) y):=Yw E202_4i h
def Zdj (x:(List Int)×Int×Int×Int):List PV:=[.rio 1 (Zf .u64 x.1),.one (.v (.int .i64 x.2.1)),.one (.v (.int .i64 x.2.2.1)),.one (.v (.int .i64 x.2.2.2))]
theorem E176_5i:∀ a b,Zdj a=Zdj b→a=b:=by
  rintro⟨a0,a1,a2,a3⟩ ⟨b0,b1,b2,b3⟩ h
  simpa[Zdj,and_assoc] using h
def ZfQ (x:(List Int)×Int×Int×Int) (y:(List Int)):PV×List (List Cell):=(.tup [],[(Zf .u64 y).flatten])
noncomputable def G176_5:=XS Zdj fun x=>(YG x.1 x.2.1 x.2.2.1 x.2.2.2).map (ZfQ x)
theorem ZwJ {a0:(List Int)}{a1:Int}{a2:Int}{a3:Int}{y:(List Int)}(h:YG a0 a1 a2 a3=some y):G176_5 (Zdj (a0,a1,a2,a3))=some (ZfQ (a0,a1,a2,a3) y):=Yw E176_5i h
noncomputable def ZqF (n:Nat):=XS Zdj fun x=>(Lslices_pdqsortOrdered_of_uint64w_n n x.1 x.2.1 x.2.2.1 x.2.2.2).map (ZfQ x)
noncomputable abbrev K127_6:=cn (a1 (oR .u64)) (rio (lR .u64)) Yp
noncomputable abbrev K65:=cn (a4 (eA .u64) (eS Z2) (eI .i64) (eI .u64)) (r1 (oL .u64)) (u4 ZcO)
noncomputable abbrev K30:Con ((Arr 2)×(List (List Int))×Int×Int) (Tapi_Filter×Int):=cn (a4 (eA .u64) (eS Z2) (eI .i64) (eI .u64)) (r2 (eG Zag) (eI .i64)) (u4 ZdF)
def E66 (x:(List Int)):List PV:=[.one (.slice .no (Zf .u8 x))]
theorem E66i:∀ a b,E66 a=E66 b→a=b:=by
  rintro a0 b0 h
  simpa[E66,and_assoc] using h
def R66 (x:(List Int)) (y:(List Int)):PV×List (List Cell):=(.one (.own 1 (Zf .u8 y)),[])
noncomputable def G66:=XS E66 fun x=>(Yv x).map (R66 x)
theorem ZzQ {a0:(List Int)}{y:(List Int)}(h:Yv a0=some y):G66 (E66 a0)=some (R66 a0 y):=Yw E66i h
noncomputable abbrev K128:=cn (a1 (eG eapi_OutPoint)) (r1 eB) Zl8
noncomputable abbrev K67:=cn (a1 (eG ZO)) (r1 eB) Zcu
noncomputable abbrev K31:=cn (a1 (eG Yh)) (r1 (oS 1 Z2)) Zb5
noncomputable abbrev K10:Con Tapi_Block (Tapi_Filter×Int):=cn (a1 (eG Yh)) (r2 (eG Zag) (eI .i64)) Zck
def G70:List PV→Option (PV×List (List Cell))
  | [.one (.slice .nil []),.one (.v (.int .i64 n))]=>if 0≤n∧n≤70368744177664 then some (.one (.own 1 []),[]) else none
  | _=>none
theorem ZzR {n:Int}(h:0≤n∧n≤70368744177664):G70 [.one (.slice .nil []),.one (.v (.int .i64 n))]=some (.one (.own 1 []),[]):=by
  simp[G70,h]
def E33 (x:(List (List Int))):List PV:=[.one (.slice .no (List.map Z2 x))]
theorem E33i:∀ a b,E33 a=E33 b→a=b:=by
  rintro a0 b0 h
  simpa[E33,and_assoc] using h
def R33 (x:(List (List Int))) (y:(List Int)):PV×List (List Cell):=(.one (.own 1 (Zf .u8 y)),[])
noncomputable def G33:=XS E33 fun x=>(ZZ x).map (R33 x)
theorem ZzS {a0:(List (List Int))}{y:(List Int)}(h:ZZ a0=some y):G33 (E33 a0)=some (R33 a0 y):=Yw E33i h
noncomputable abbrev K11:=cn (a2 (eA .u8) (eA .u8)) (r1 (eA .u8)) (u2 Zb4)
noncomputable abbrev K34:Con Tapi_Filter ((List Int)×Int):=cn (a1 (eG Zag)) (r2 (eL .u8) (eI .i64)) ZdB
noncomputable abbrev K12:=cn (a1 (eG Zag)) (r1 (eA .u8)) ZdY
noncomputable abbrev K45:=cn (a1 (eS eapi_Claim)) (r1 eB) Xd
noncomputable abbrev K46:=cn (a2 (eI .i64) (eI .i64)) (r1 eB) (u2 Xo)
noncomputable abbrev K35:=cn (a1 (eG ZaH)) (r1 eB) Yu
noncomputable abbrev K132:=cn (a1 (eS Y2)) (r1 eB) Zjo
noncomputable abbrev K72:=cn (a1 (eG ZO)) (r1 (eI .i64)) Zhq
noncomputable abbrev K180:=cn (a2 (eG ZO) eB) (r1 (eA .u8)) (u2 Zf3)
noncomputable abbrev K133:=cn (a1 (eG ZO)) (r1 (eA .u8)) ZmW
noncomputable abbrev K73:=cn (a1 (eS ZO)) (r1 (eI .i64)) ZfI
noncomputable abbrev K134:=cn (a1 (eG ZO)) (r1 (eA .u8)) Zkk
noncomputable abbrev K211:=cn (a2 (eA .u8) (eA .u8)) (r1 (eA .u8)) (u2 ZfJ)
noncomputable abbrev K181:=cn (a1 (eS (arC .u8))) (r1 (oS 1 Zg2)) ZdI
noncomputable abbrev K135:=cn (a1 (eS (arC .u8))) (r1 (eA .u8)) ZfK
noncomputable abbrev K74:=cn (a1 (eS ZO)) (r1 (eA .u8)) ZgZ
noncomputable abbrev K36:=cn (a1 (eG Yh)) (r1 (eI .i64)) ZfL
noncomputable abbrev K37:Con (Tapi_Dispute×(Arr 32)) (Tapi_Dispute×(List Int)×Int):=cn (a2 (eG ZaH) (eA .u8)) (r3 (eG ZaH) (eL .i64) (eI .i64)) (u2 Zay)
noncomputable abbrev K13:Con (Tapi_Dispute×(Arr 32)×Tapi_Block) ((Arr 32)×(List Int)×Int):=cn (a3 (eG ZaH) (eA .u8) (eG Yh)) (r3 (eA .u8) (eL .i64) (eI .i64)) (u3 ZdJ)
noncomputable abbrev K75:=cn (a2 (eI .i64) (eI .i64)) (r1 eB) (u2 ZiN)
noncomputable abbrev K76:=cn (a1 (eS eapi_Claim)) (r1 eB) Zey
noncomputable abbrev K38:=cn (a1 (eG ZaH)) (r1 eB) Zea
noncomputable abbrev K185:=cn (a2 (eL .u8) (eL .u8)) (r1 eB) (u2 ZgQ)
def Zjm (x:(List (List Int))):List PV:=[.one (.slice .no (List.map Z2 x))]
theorem E142i:∀ a b,Zjm a=Zjm b→a=b:=by
  rintro a0 b0 h
  simpa[Zjm,and_assoc] using h
def Zlp (x:(List (List Int))) (y:(List (List Int))):PV×List (List Cell):=(.one (.own 1 (List.map Z2 y)),[])
noncomputable def G142:=XS Zjm fun x=>(Xl x).map (Zlp x)
theorem Zy5 {a0:(List (List Int))}{y:(List (List Int))}(h:Xl a0=some y):G142 (Zjm a0)=some (Zlp a0 y):=Yw E142i h
noncomputable abbrev K186:=cn (a2 (eI .u64) (eI .u64)) (r1 (eI .u64)) (u2 Zht)
noncomputable abbrev K146:=cn (a1 (eL .u8)) (r1 (eI .u64)) Zdr
noncomputable abbrev K215:=cn (a1 (eA .u64)) (r1 (eA .u64)) X7
noncomputable abbrev K214:=cn (a2 (eA .u64) (eI .u64)) (r1 (eA .u64)) (u2 Zc5)
noncomputable abbrev K187:=cn (a2 (eA .u64) (eL .u8)) (r1 (eI .u64)) (u2 ZjH)
noncomputable abbrev K143:=cn (a4 (eA .u64) (eL .u8) (eI .i64) (eI .u64)) (r1 (eI .u64)) (u4 Zft)
noncomputable abbrev K229:=cn (a2 (eG Zdv) (eI .i64)) (r1 eB) (u2 Zh2)
noncomputable abbrev K216:=cn (a1 (eG Zdv)) (r1 eB) Zfs
def E217_7 (x:Tapi_Bits×Bool):List PV:=[.agg ([.own 1 (Zf .u8 x.1.1),.v (.int .i64 x.1.2)]),.one (.v (.bool x.2))]
instance:YJ E217_7:=⟨by intro a b h; simpa[E217_7,Prod.ext_iff,and_assoc] using h⟩
noncomputable abbrev K217_7:Con (Tapi_Bits×Bool) Tapi_Bits:=cn E217_7 (fun _ y=>(.agg ([.own 1 (Zf .u8 y.1),.v (.int .i64 y.2)]),[])) (u2 ZeK)
noncomputable abbrev K188:Con (Tapi_Bits×Int×Int) (Tapi_Bits×Int):=cn (a3 (eG Zdv) (eI .u64) (eI .i64)) (r2 (eG Zdv) (eI .i64)) (u3 Zaq)
noncomputable abbrev K144:Con ((List Int)×Int) (Tapi_Filter×Int):=cn (a2 (eL .u64) (eI .i64)) (r2 (eG Zag) (eI .i64)) (u2 Zc4)
def Zgk (x:(List Int)):List PV:=[.one (.slice .no (Zf .u64 x))]
theorem E145i:∀ a b,Zgk a=Zgk b→a=b:=by
  rintro a0 b0 h
  simpa[Zgk,and_assoc] using h
def Ziz (x:(List Int)) (y:(List Int)):PV×List (List Cell):=(.one (.slice .no (Zf .u64 y)),[])
noncomputable def G145:=XS Zgk fun x=>(Zgw x).map (Ziz x)
theorem Zy6 {a0:(List Int)}{y:(List Int)}(h:Zgw a0=some y):G145 (Zgk a0)=some (Ziz a0 y):=Yw E145i h
noncomputable def ZrL (n:Nat):=XS Zgk fun x=>(Lref19_sorted_n n x).map (Ziz x)
theorem Zs3 {n:Nat}{a0:(List Int)}{y:(List Int)}(h:Lref19_sorted_n n a0=some y):ZrL n (Zgk a0)=some (Ziz a0 y):=Yw E145i h
noncomputable abbrev K85:Con ((Arr 2)×(List (List Int))×Int×Int) (Tapi_Filter×Int):=cn (a4 (eA .u64) (eS Z2) (eI .i64) (eI .u64)) (r2 (eG Zag) (eI .i64)) (u4 Zfu)
noncomputable abbrev K86:=cn (a1 (eA .u8)) (r1 (eA .u64)) Zh7
noncomputable abbrev K87:=cn (a1 (eG Yh)) (r1 (oS 1 Z2)) ZcN
noncomputable abbrev K40:Con Tapi_Block (Tapi_Filter×Int):=cn (a1 (eG Yh)) (r2 (eG Zag) (eI .i64)) Zhu
noncomputable abbrev K41:=cn (a2 (eA .u8) (eA .u8)) (r1 (eA .u8)) (u2 Zer)
noncomputable abbrev K89:Con Tapi_Filter ((List Int)×Int):=cn (a1 (eG Zag)) (r2 (eL .u8) (eI .i64)) Zes
noncomputable abbrev K42:=cn (a1 (eG Zag)) (r1 (eA .u8)) ZgR
noncomputable abbrev K43:Con (Tapi_Dispute×(Arr 32)) (Tapi_Dispute×(List Int)×Int):=cn (a2 (eG ZaH) (eA .u8)) (r3 (eG ZaH) (eL .i64) (eI .i64)) (u2 Zez)
noncomputable abbrev K14:Con (Tapi_Dispute×(Arr 32)×Tapi_Block) ((Arr 32)×(List Int)×Int):=cn (a3 (eG ZaH) (eA .u8) (eG Yh)) (r3 (eA .u8) (eL .i64) (eI .i64)) (u3 ZfM)
noncomputable abbrev K15:=cn (a2 (eL .i64) (eL .i64)) (r1 eB) (u2 ZcU)
def E3 (x:Tapi_Dispute×Int×(List Int)×Int×Int):List PV:=[.agg ((.v (.int .i64 x.1.1)) :: ((.v (.int .i64 x.1.2.1)) :: ((arC .u8 x.1.2.2.1)++((.slice .no (List.map eapi_Claim x.1.2.2.2)) :: [])))),.one (.v (.int .u8 x.2.1)),.one (.slice .no (Zf .u8 x.2.2.1)),.one (.v (.int .u8 x.2.2.2.1)),.one (.v (.int .u8 x.2.2.2.2))]
theorem E3i:∀ a b,E3 a=E3 b→a=b:=by
  rintro⟨⟨a0_0,a0_1,a0_2,a0_3⟩,a1,a2,a3,a4⟩ ⟨⟨b0_0,b0_1,b0_2,b0_3⟩,b1,b2,b3,b4⟩ h
  simpa[E3,and_assoc] using h
def R3 (x:Tapi_Dispute×Int×(List Int)×Int×Int) (y:Bool):PV×List (List Cell):=(.one (.v (.bool y)),[])
noncomputable def G3:=XS E3 fun x=>(Xp x.1 x.2.1 x.2.2.1 x.2.2.2.1 x.2.2.2.2).map (R3 x)
theorem ZAI {a0:Tapi_Dispute}{a1:Int}{a2:(List Int)}{a3:Int}{a4:Int}{y:Bool}(h:Xp a0 a1 a2 a3 a4=some y):G3 (E3 (a0,a1,a2,a3,a4))=some (R3 (a0,a1,a2,a3,a4) y):=Yw E3i h
theorem rg {tt:TT}{T:Tab}{G:Glob}{a b:List Oper}{st st1:ASt}(h:Zdm tt T G a b st=some st1:=by
  first
    | (simp[-Int.ofNat_toNat,ZI, *] <;> first | rfl | (repeat (simp(disch:=omega) only[leT,ltT,Zlf,Zlg,leF,ltF,Zlh,Zli,ZbJ]; try simp[-Int.ofNat_toNat,ZI, *])) <;> rfl)
    | fail):Zdm tt T G a b st=some st1:=h
theorem dr {tt:TT}{T:Tab}{G:Glob}{a b:List Oper}{st st1:ASt}{fs:List Foot}(h:ZdL tt T G a b st=some (st1,fs):=by
  first
    | (simp[-Int.ofNat_toNat,ZI, *] <;> first | exact⟨rfl,rfl⟩ | rfl | (repeat (simp(disch:=omega) only[leT,ltT,Zlf,Zlg,leF,ltF,Zlh,Zli,ZbJ]; try simp[-Int.ofNat_toNat,ZI, *])) <;> first | exact⟨rfl,rfl⟩ | rfl)
    | fail):ZdL tt T G a b st=some (st1,fs):=h
theorem rgA {tt:TT}{T:Tab}{G:Glob}{a b:List Oper}{st st1:ASt}(h:Zdm tt T G a b st=some st1:=by
  first
    | (simp[-Int.ofNat_toNat,Nat.add_assoc,ZI, *] <;> first | rfl | (repeat (simp(disch:=omega) only[leT,ltT,Zlf,Zlg,leF,ltF,Zlh,Zli,ZbJ]; try simp[-Int.ofNat_toNat,Nat.add_assoc,ZI, *])) <;> rfl)
    | fail):Zdm tt T G a b st=some st1:=h
theorem drA {tt:TT}{T:Tab}{G:Glob}{a b:List Oper}{st st1:ASt}{fs:List Foot}(h:ZdL tt T G a b st=some (st1,fs):=by
  first
    | (simp[-Int.ofNat_toNat,Nat.add_assoc,ZI, *] <;> first | exact⟨rfl,rfl⟩ | rfl | (repeat (simp(disch:=omega) only[leT,ltT,Zlf,Zlg,leF,ltF,Zlh,Zli,ZbJ]; try simp[-Int.ofNat_toNat,Nat.add_assoc,ZI, *])) <;> first | exact⟨rfl,rfl⟩ | rfl)
    | fail):ZdL tt T G a b st=some (st1,fs):=h
theorem rgAD {tt:TT}{T:Tab}{G:Glob}{a b:List Oper}{st st1:ASt}(h:Zdm tt T G a b st=some st1:=by
  first
    | (simp[-Int.ofNat_toNat,Nat.add_assoc,-Int.natCast_tdiv_eq_ediv,ZI, *] <;> first | rfl | (repeat (simp(disch:=omega) only[leT,ltT,Zlf,Zlg,leF,ltF,Zlh,Zli,ZbJ]; try simp[-Int.ofNat_toNat,Nat.add_assoc,-Int.natCast_tdiv_eq_ediv,ZI, *])) <;> rfl)
    | fail):Zdm tt T G a b st=some st1:=h
theorem drAD {tt:TT}{T:Tab}{G:Glob}{a b:List Oper}{st st1:ASt}{fs:List Foot}(h:ZdL tt T G a b st=some (st1,fs):=by
  first
    | (simp[-Int.ofNat_toNat,Nat.add_assoc,-Int.natCast_tdiv_eq_ediv,ZI, *] <;> first | exact⟨rfl,rfl⟩ | rfl | (repeat (simp(disch:=omega) only[leT,ltT,Zlf,Zlg,leF,ltF,Zlh,Zli,ZbJ]; try simp[-Int.ofNat_toNat,Nat.add_assoc,-Int.natCast_tdiv_eq_ediv,ZI, *])) <;> first | exact⟨rfl,rfl⟩ | rfl)
    | fail):ZdL tt T G a b st=some (st1,fs):=h
theorem ZwK {tt:TT}{T:Tab}{G:Glob}{a b:List Oper}{st st1:ASt}(h:Zdm tt T G a b st=some st1:=by
  first
    | (simp[-Int.ofNat_toNat,Nat.add_assoc,-Int.natCast_tdiv_eq_ediv,List.range,List.range.loop,-YF,-List.take_append,-List.drop_append,ZI, *] <;> first | rfl | (repeat (simp(disch:=omega) only[leT,ltT,Zlf,Zlg,leF,ltF,Zlh,Zli,ZbJ]; try simp[-Int.ofNat_toNat,Nat.add_assoc,-Int.natCast_tdiv_eq_ediv,List.range,List.range.loop,-YF,-List.take_append,-List.drop_append,ZI, *])) <;> rfl)
    | fail):Zdm tt T G a b st=some st1:=h
theorem ZwL {tt:TT}{T:Tab}{G:Glob}{a b:List Oper}{st st1:ASt}{fs:List Foot}(h:ZdL tt T G a b st=some (st1,fs):=by
  first
    | (simp[-Int.ofNat_toNat,Nat.add_assoc,-Int.natCast_tdiv_eq_ediv,List.range,List.range.loop,-YF,-List.take_append,-List.drop_append,ZI, *] <;> first | exact⟨rfl,rfl⟩ | rfl | (repeat (simp(disch:=omega) only[leT,ltT,Zlf,Zlg,leF,ltF,Zlh,Zli,ZbJ]; try simp[-Int.ofNat_toNat,Nat.add_assoc,-Int.natCast_tdiv_eq_ediv,List.range,List.range.loop,-YF,-List.take_append,-List.drop_append,ZI, *])) <;> first | exact⟨rfl,rfl⟩ | rfl)
    | fail):ZdL tt T G a b st=some (st1,fs):=h
theorem rgL {tt:TT}{T:Tab}{G:Glob}{a b:List Oper}{st st1:ASt}(h:Zdm tt T G a b st=some st1:=by
  first
    | (simp[-Int.ofNat_toNat,-Zt,Zo,ZI, *] <;> first | rfl | (repeat (simp(disch:=omega) only[leT,ltT,Zlf,Zlg,leF,ltF,Zlh,Zli,ZbJ]; try simp[-Int.ofNat_toNat,-Zt,Zo,ZI, *])) <;> rfl)
    | fail):Zdm tt T G a b st=some st1:=h
theorem drL {tt:TT}{T:Tab}{G:Glob}{a b:List Oper}{st st1:ASt}{fs:List Foot}(h:ZdL tt T G a b st=some (st1,fs):=by
  first
    | (simp[-Int.ofNat_toNat,-Zt,Zo,ZI, *] <;> first | exact⟨rfl,rfl⟩ | rfl | (repeat (simp(disch:=omega) only[leT,ltT,Zlf,Zlg,leF,ltF,Zlh,Zli,ZbJ]; try simp[-Int.ofNat_toNat,-Zt,Zo,ZI, *])) <;> first | exact⟨rfl,rfl⟩ | rfl)
    | fail):ZdL tt T G a b st=some (st1,fs):=h
theorem rgR {tt:TT}{T:Tab}{G:Glob}{a b:List Oper}{st st1:ASt}(h:Zdm tt T G a b st=some st1:=by
  first
    | (simp[-Int.ofNat_toNat,List.range,List.range.loop,ZI, *] <;> first | rfl | (repeat (simp(disch:=omega) only[leT,ltT,Zlf,Zlg,leF,ltF,Zlh,Zli,ZbJ]; try simp[-Int.ofNat_toNat,List.range,List.range.loop,ZI, *])) <;> rfl)
    | fail):Zdm tt T G a b st=some st1:=h
theorem drR {tt:TT}{T:Tab}{G:Glob}{a b:List Oper}{st st1:ASt}{fs:List Foot}(h:ZdL tt T G a b st=some (st1,fs):=by
  first
    | (simp[-Int.ofNat_toNat,List.range,List.range.loop,ZI, *] <;> first | exact⟨rfl,rfl⟩ | rfl | (repeat (simp(disch:=omega) only[leT,ltT,Zlf,Zlg,leF,ltF,Zlh,Zli,ZbJ]; try simp[-Int.ofNat_toNat,List.range,List.range.loop,ZI, *])) <;> first | exact⟨rfl,rfl⟩ | rfl)
    | fail):ZdL tt T G a b st=some (st1,fs):=h
theorem au {P:Prop}{R1 R2 R3:Prop}(k1:R1:=by exact trivial) (k2:R2:=by exact trivial) (k3:R3:=by exact trivial) (t:∀ X1:Prop,X1→Zbt X1 R1→∀ X2:Prop,X2→Zbt X2 R2→∀ X3:Prop,X3→Zbt X3 R3→P:=by
  intro X1 x1 e1 X2 x2 e2 X3 x3 e3;try simp only[upd,ZjU,updB,setB,List.foldl,List.set,und,List.replicate,List.cons_append,List.nil_append,reduceIte,Nat.lt_irrefl,Nat.reduceLT]
  repeat' (first
    | (with_reducible refine ZlJ ?_)
    | (with_reducible refine ZlI (by assumption) ?_)
    | ((with_reducible refine Zmb ?_); intro v f f f)
    | (with_reducible refine Zkl (by assumption) ?_)
    | ((with_reducible refine ZmZ ?_); intro f; try simp only[List.length_replicate,List.length_set,List.length_take,List.length_drop,List.length_append] at f)
    | ((with_reducible refine ZlH ?_); intro v f f; try simp only[Con.Q,kS,nf,nfs,Yi,Ziw,ZkA,E57,R57,E90,R90,Zll,ZmQ,Zlm,ZmR,Zix,ZkB,Ziy,ZkC,Zjk,Zln,Zjl,Zlo,E23_1,E171_2,E172_3,E49,R49,Zdi,ZfP,Zdj,ZfQ,E66,R66,E33,R33,Zjm,Zlp,E217_7,Zgk,Ziz,List.length_replicate,List.length_set] at f)
    | ((with_reducible refine Zm2 ?_); intro e; subst e; refine ZlL ?_)
    | ((with_reducible refine Zm1 ?_); intro v e; (try rw[e]))
    | (with_reducible refine Zjq ?_)
    | (with_reducible exact im_none)
    | (with_reducible exact Zkm)
    | ((with_reducible refine ZaD ?_); (repeat (first | revert f | revert g | revert e | revert v)); exact Zg8 e1 x1)
    | ((with_reducible refine ZaD ?_); (repeat (first | revert f | revert g | revert e | revert v)); exact Zg8 e2 x2)
    | ((with_reducible refine ZaD ?_); (repeat (first | revert f | revert g | revert e | revert v)); exact Zg8 e3 x3)
    | (with_reducible refine Zgb ?_)
    | (with_reducible refine Zco ?_)
    | (with_reducible refine Zbu ?_)
    | (with_reducible refine Zcp ?_)
    | (with_reducible refine Zdq ?_)
    | (with_reducible refine Zgc ?_)
    | (with_reducible refine Zif ?_)
    | (with_reducible refine Zig ?_)
    | (with_reducible refine ZjT ?_)
    | ((with_reducible refine YM ?_ ?_); · simp[-Int.ofNat_toNat,bV, *]; done)
    | ((with_reducible refine YN ?_ ?_); · simp[-Int.ofNat_toNat,bV, *]; done)
    | (refine Zdp rfl rg ?_)
    | (refine Zcn rfl dr (by kernel_rfl) ?_)
    | ((with_reducible refine ZaW ?_ ?_); · simp[-Int.ofNat_toNat,bV, *]; done)
    | ((with_reducible refine ZaX ?_ ?_); · simp[-Int.ofNat_toNat,bV, *]; done)
    | (refine ZjS rfl rg ?_)
    | (refine Zie rfl dr (by kernel_rfl) ?_)
    | (refine Zgd ?_ (by simp only[pq,reduceCtorEq]; rfl))
    | (refine Zgd ?_ (if_neg (by decide)))
    | (with_reducible refine ZfN (by assumption) ?_)
    | (with_reducible refine ZfN (of_eq_true (by assumption)) ?_)
    | (with_reducible refine Zmc (by assumption) ?_)
    | (with_reducible refine ZdK (by assumption) ?_)
    | (with_reducible refine ZdK (of_eq_true (by assumption)) ?_)
    | (with_reducible refine Zkn (by assumption) ?_)
    | (with_reducible refine ZlK ?_)
    | (with_reducible refine Zko ?_)
    | (with_reducible refine Zkp ?_)
    | ((with_reducible refine ZoQ ?_ ?_) <;> (intro f; (try replace f:=Classical.not_not.1 f); have g:=nrm f; try replace f:=eqI f))
    | ((with_reducible refine Zm0 ?_ ?_) <;> (intro f; (try replace f:=Classical.not_not.1 f); have g:=nrm f; try replace f:=eqI f))
    | ((with_reducible refine YM ?_ ?_); · simp[-Int.ofNat_toNat,bV, *]; omega)
    | ((with_reducible refine YN ?_ ?_); · simp[-Int.ofNat_toNat,bV, *]; omega)
    | ((with_reducible refine ZaW ?_ ?_); · simp[-Int.ofNat_toNat,bV, *]; omega)
    | ((with_reducible refine ZaX ?_ ?_); · simp[-Int.ofNat_toNat,bV, *]; omega)
    | ((with_reducible refine ZoR ?_); intro e; (try rw[e]))
    | ((fail_if_success (have:v=true:=by assumption)); (fail_if_success (have:v=false:=by assumption)); (with_reducible refine ZlM v ?_ ?_) <;> (intro f; try (exfalso; simp_all; done)))
    | (intro _; simp[-Int.ofNat_toNat,Xj,ZI, *]; done)
    | (intro _; simp only[pq,reduceCtorEq]; simp[-Int.ofNat_toNat,und,List.replicate,Nat.add_assoc,upd,ZjU,updB, *]; done))):P:=t R1 k1 ⟨rfl⟩ R2 k2 ⟨rfl⟩ R3 k3 ⟨rfl⟩
theorem auA {P:Prop}{R1 R2 R3:Prop}(k1:R1:=by exact trivial) (k2:R2:=by exact trivial) (k3:R3:=by exact trivial) (t:∀ X1:Prop,X1→Zbt X1 R1→∀ X2:Prop,X2→Zbt X2 R2→∀ X3:Prop,X3→Zbt X3 R3→P:=by
  intro X1 x1 e1 X2 x2 e2 X3 x3 e3;try simp only[upd,ZjU,updB,setB,List.foldl,List.set,und,List.replicate,List.cons_append,List.nil_append,reduceIte,Nat.lt_irrefl,Nat.reduceLT]
  repeat' (first
    | (with_reducible refine ZlJ ?_)
    | (with_reducible refine ZlI (by assumption) ?_)
    | ((with_reducible refine Zmb ?_); intro v f f f)
    | (with_reducible refine Zkl (by assumption) ?_)
    | ((with_reducible refine ZmZ ?_); intro f; try simp only[List.length_replicate,List.length_set,List.length_take,List.length_drop,List.length_append] at f)
    | ((with_reducible refine ZlH ?_); intro v f f; try simp only[Con.Q,kS,nf,nfs,Yi,Ziw,ZkA,E57,R57,E90,R90,Zll,ZmQ,Zlm,ZmR,Zix,ZkB,Ziy,ZkC,Zjk,Zln,Zjl,Zlo,E23_1,E171_2,E172_3,E49,R49,Zdi,ZfP,Zdj,ZfQ,E66,R66,E33,R33,Zjm,Zlp,E217_7,Zgk,Ziz,List.length_replicate,List.length_set] at f)
    | ((with_reducible refine Zm2 ?_); intro e; subst e; refine ZlL ?_)
    | ((with_reducible refine Zm1 ?_); intro v e; (try rw[e]))
    | (with_reducible refine Zjq ?_)
    | (with_reducible exact im_none)
    | (with_reducible exact Zkm)
    | ((with_reducible refine ZaD ?_); (repeat (first | revert f | revert g | revert e | revert v)); exact Zg8 e1 x1)
    | ((with_reducible refine ZaD ?_); (repeat (first | revert f | revert g | revert e | revert v)); exact Zg8 e2 x2)
    | ((with_reducible refine ZaD ?_); (repeat (first | revert f | revert g | revert e | revert v)); exact Zg8 e3 x3)
    | (with_reducible refine Zgb ?_)
    | (with_reducible refine Zco ?_)
    | (with_reducible refine Zbu ?_)
    | (with_reducible refine Zcp ?_)
    | (with_reducible refine Zdq ?_)
    | (with_reducible refine Zgc ?_)
    | (with_reducible refine Zif ?_)
    | (with_reducible refine Zig ?_)
    | (with_reducible refine ZjT ?_)
    | ((with_reducible refine YM ?_ ?_); · simp[-Int.ofNat_toNat,bV, *]; done)
    | ((with_reducible refine YN ?_ ?_); · simp[-Int.ofNat_toNat,bV, *]; done)
    | (refine Zdp rfl rgA ?_)
    | (refine Zcn rfl drA (by kernel_rfl) ?_)
    | ((with_reducible refine ZaW ?_ ?_); · simp[-Int.ofNat_toNat,bV, *]; done)
    | ((with_reducible refine ZaX ?_ ?_); · simp[-Int.ofNat_toNat,bV, *]; done)
    | (refine ZjS rfl rgA ?_)
    | (refine Zie rfl drA (by kernel_rfl) ?_)
    | (refine Zgd ?_ (by simp only[pq,reduceCtorEq]; rfl))
    | (refine Zgd ?_ (if_neg (by decide)))
    | (with_reducible refine ZfN (by assumption) ?_)
    | (with_reducible refine ZfN (of_eq_true (by assumption)) ?_)
    | (with_reducible refine Zmc (by assumption) ?_)
    | (with_reducible refine ZdK (by assumption) ?_)
    | (with_reducible refine ZdK (of_eq_true (by assumption)) ?_)
    | (with_reducible refine Zkn (by assumption) ?_)
    | (with_reducible refine ZlK ?_)
    | (with_reducible refine Zko ?_)
    | (with_reducible refine Zkp ?_)
    | ((with_reducible refine ZoQ ?_ ?_) <;> (intro f; (try replace f:=Classical.not_not.1 f); have g:=nrm f; try replace f:=eqI f))
    | ((with_reducible refine Zm0 ?_ ?_) <;> (intro f; (try replace f:=Classical.not_not.1 f); have g:=nrm f; try replace f:=eqI f))
    | ((with_reducible refine YM ?_ ?_); · simp[-Int.ofNat_toNat,bV, *]; omega)
    | ((with_reducible refine YN ?_ ?_); · simp[-Int.ofNat_toNat,bV, *]; omega)
    | ((with_reducible refine ZaW ?_ ?_); · simp[-Int.ofNat_toNat,bV, *]; omega)
    | ((with_reducible refine ZaX ?_ ?_); · simp[-Int.ofNat_toNat,bV, *]; omega)
    | ((with_reducible refine ZoR ?_); intro e; (try rw[e]))
    | ((fail_if_success (have:v=true:=by assumption)); (fail_if_success (have:v=false:=by assumption)); (with_reducible refine ZlM v ?_ ?_) <;> (intro f; try (exfalso; simp_all; done)))
    | (intro _; simp[-Int.ofNat_toNat,Xj,ZI, *]; done)
    | (intro _; simp only[pq,reduceCtorEq]; simp[-Int.ofNat_toNat,und,List.replicate,Nat.add_assoc,upd,ZjU,updB, *]; done))):P:=t R1 k1 ⟨rfl⟩ R2 k2 ⟨rfl⟩ R3 k3 ⟨rfl⟩
theorem ZhS {P:Prop}{R1 R2 R3:Prop}(k1:R1:=by exact trivial) (k2:R2:=by exact trivial) (k3:R3:=by exact trivial) (t:∀ X1:Prop,X1→Zbt X1 R1→∀ X2:Prop,X2→Zbt X2 R2→∀ X3:Prop,X3→Zbt X3 R3→P:=by
  intro X1 x1 e1 X2 x2 e2 X3 x3 e3;try simp only[upd,ZjU,updB,setB,List.foldl,List.set,und,List.replicate,List.cons_append,List.nil_append,reduceIte,Nat.lt_irrefl,Nat.reduceLT]
  repeat' (first
    | (with_reducible refine ZlJ ?_)
    | (with_reducible refine ZlI (by assumption) ?_)
    | ((with_reducible refine Zmb ?_); intro v f f f)
    | (with_reducible refine Zkl (by assumption) ?_)
    | ((with_reducible refine ZmZ ?_); intro f; try simp only[List.length_replicate,List.length_set,List.length_take,List.length_drop,List.length_append] at f)
    | ((with_reducible refine ZlH ?_); intro v f f; try simp only[Con.Q,kS,nf,nfs,Yi,Ziw,ZkA,E57,R57,E90,R90,Zll,ZmQ,Zlm,ZmR,Zix,ZkB,Ziy,ZkC,Zjk,Zln,Zjl,Zlo,E23_1,E171_2,E172_3,E49,R49,Zdi,ZfP,Zdj,ZfQ,E66,R66,E33,R33,Zjm,Zlp,E217_7,Zgk,Ziz,List.length_replicate,List.length_set] at f)
    | ((with_reducible refine Zm2 ?_); intro e; subst e; refine ZlL ?_)
    | ((with_reducible refine Zm1 ?_); intro v e; (try rw[e]))
    | (with_reducible refine Zjq ?_)
    | (with_reducible exact im_none)
    | (with_reducible exact Zkm)
    | ((with_reducible refine ZaD ?_); (repeat (first | revert f | revert g | revert e | revert v)); exact Zg8 e1 x1)
    | ((with_reducible refine ZaD ?_); (repeat (first | revert f | revert g | revert e | revert v)); exact Zg8 e2 x2)
    | ((with_reducible refine ZaD ?_); (repeat (first | revert f | revert g | revert e | revert v)); exact Zg8 e3 x3)
    | (with_reducible refine Zgb ?_)
    | (with_reducible refine Zco ?_)
    | (with_reducible refine Zbu ?_)
    | (with_reducible refine Zcp ?_)
    | (with_reducible refine Zdq ?_)
    | (with_reducible refine Zgc ?_)
    | (with_reducible refine Zif ?_)
    | (with_reducible refine Zig ?_)
    | (with_reducible refine ZjT ?_)
    | ((with_reducible refine YM ?_ ?_); · simp[-Int.ofNat_toNat,bV, *]; done)
    | ((with_reducible refine YN ?_ ?_); · simp[-Int.ofNat_toNat,bV, *]; done)
    | (refine Zdp rfl rgAD ?_)
    | (refine Zcn rfl drAD (by kernel_rfl) ?_)
    | ((with_reducible refine ZaW ?_ ?_); · simp[-Int.ofNat_toNat,bV, *]; done)
    | ((with_reducible refine ZaX ?_ ?_); · simp[-Int.ofNat_toNat,bV, *]; done)
    | (refine ZjS rfl rgAD ?_)
    | (refine Zie rfl drAD (by kernel_rfl) ?_)
    | (refine Zgd ?_ (by simp only[pq,reduceCtorEq]; rfl))
    | (refine Zgd ?_ (if_neg (by decide)))
    | (with_reducible refine ZfN (by assumption) ?_)
    | (with_reducible refine ZfN (of_eq_true (by assumption)) ?_)
    | (with_reducible refine Zmc (by assumption) ?_)
    | (with_reducible refine ZdK (by assumption) ?_)
    | (with_reducible refine ZdK (of_eq_true (by assumption)) ?_)
    | (with_reducible refine Zkn (by assumption) ?_)
    | (with_reducible refine ZlK ?_)
    | (with_reducible refine Zko ?_)
    | (with_reducible refine Zkp ?_)
    | ((with_reducible refine ZoQ ?_ ?_) <;> (intro f; (try replace f:=Classical.not_not.1 f); have g:=nrm f; try replace f:=eqI f))
    | ((with_reducible refine Zm0 ?_ ?_) <;> (intro f; (try replace f:=Classical.not_not.1 f); have g:=nrm f; try replace f:=eqI f))
    | ((with_reducible refine YM ?_ ?_); · simp[-Int.ofNat_toNat,bV, *]; omega)
    | ((with_reducible refine YN ?_ ?_); · simp[-Int.ofNat_toNat,bV, *]; omega)
    | ((with_reducible refine ZaW ?_ ?_); · simp[-Int.ofNat_toNat,bV, *]; omega)
    | ((with_reducible refine ZaX ?_ ?_); · simp[-Int.ofNat_toNat,bV, *]; omega)
    | ((with_reducible refine ZoR ?_); intro e; (try rw[e]))
    | ((fail_if_success (have:v=true:=by assumption)); (fail_if_success (have:v=false:=by assumption)); (with_reducible refine ZlM v ?_ ?_) <;> (intro f; try (exfalso; simp_all; done)))
    | (intro _; simp[-Int.ofNat_toNat,Xj,ZI, *]; done)
    | (intro _; simp only[pq,reduceCtorEq]; simp[-Int.ofNat_toNat,und,List.replicate,Nat.add_assoc,upd,ZjU,updB, *]; done))):P:=t R1 k1 ⟨rfl⟩ R2 k2 ⟨rfl⟩ R3 k3 ⟨rfl⟩
theorem Zs4 {P:Prop}{R1 R2 R3:Prop}(k1:R1:=by exact trivial) (k2:R2:=by exact trivial) (k3:R3:=by exact trivial) (t:∀ X1:Prop,X1→Zbt X1 R1→∀ X2:Prop,X2→Zbt X2 R2→∀ X3:Prop,X3→Zbt X3 R3→P:=by
  intro X1 x1 e1 X2 x2 e2 X3 x3 e3;try simp only[upd,ZjU,updB,setB,List.foldl,List.set,und,List.replicate,List.cons_append,List.nil_append,reduceIte,Nat.lt_irrefl,Nat.reduceLT]
  repeat' (first
    | (with_reducible refine ZlJ ?_)
    | (with_reducible refine ZlI (by assumption) ?_)
    | ((with_reducible refine Zmb ?_); intro v f f f)
    | (with_reducible refine Zkl (by assumption) ?_)
    | ((with_reducible refine ZmZ ?_); intro f; try simp only[List.length_replicate,List.length_set,List.length_take,List.length_drop,List.length_append] at f)
    | ((with_reducible refine ZlH ?_); intro v f f; try simp only[Con.Q,kS,nf,nfs,Yi,Ziw,ZkA,E57,R57,E90,R90,Zll,ZmQ,Zlm,ZmR,Zix,ZkB,Ziy,ZkC,Zjk,Zln,Zjl,Zlo,E23_1,E171_2,E172_3,E49,R49,Zdi,ZfP,Zdj,ZfQ,E66,R66,E33,R33,Zjm,Zlp,E217_7,Zgk,Ziz,List.length_replicate,List.length_set] at f)
    | ((with_reducible refine Zm2 ?_); intro e; subst e; refine ZlL ?_)
    | ((with_reducible refine Zm1 ?_); intro v e; (try rw[e]))
    | (with_reducible refine Zjq ?_)
    | (with_reducible exact im_none)
    | (with_reducible exact Zkm)
    | ((with_reducible refine ZaD ?_); (repeat (first | revert f | revert g | revert e | revert v)); exact Zg8 e1 x1)
    | ((with_reducible refine ZaD ?_); (repeat (first | revert f | revert g | revert e | revert v)); exact Zg8 e2 x2)
    | ((with_reducible refine ZaD ?_); (repeat (first | revert f | revert g | revert e | revert v)); exact Zg8 e3 x3)
    | (with_reducible refine Zgb ?_)
    | (with_reducible refine Zco ?_)
    | (with_reducible refine Zbu ?_)
    | (with_reducible refine Zcp ?_)
    | (with_reducible refine Zdq ?_)
    | (with_reducible refine Zgc ?_)
    | (with_reducible refine Zif ?_)
    | (with_reducible refine Zig ?_)
    | (with_reducible refine ZjT ?_)
    | ((with_reducible refine YM ?_ ?_); · simp[-Int.ofNat_toNat,bV, *]; done)
    | ((with_reducible refine YN ?_ ?_); · simp[-Int.ofNat_toNat,bV, *]; done)
    | (refine Zdp rfl ZwK ?_)
    | (refine Zcn rfl ZwL (by kernel_rfl) ?_)
    | ((with_reducible refine ZaW ?_ ?_); · simp[-Int.ofNat_toNat,bV, *]; done)
    | ((with_reducible refine ZaX ?_ ?_); · simp[-Int.ofNat_toNat,bV, *]; done)
    | (refine ZjS rfl ZwK ?_)
    | (refine Zie rfl ZwL (by kernel_rfl) ?_)
    | (refine Zgd ?_ (by simp only[pq,reduceCtorEq]; rfl))
    | (refine Zgd ?_ (if_neg (by decide)))
    | (with_reducible refine ZfN (by assumption) ?_)
    | (with_reducible refine ZfN (of_eq_true (by assumption)) ?_)
    | (with_reducible refine Zmc (by assumption) ?_)
    | (with_reducible refine ZdK (by assumption) ?_)
    | (with_reducible refine ZdK (of_eq_true (by assumption)) ?_)
    | (with_reducible refine Zkn (by assumption) ?_)
    | (with_reducible refine ZlK ?_)
    | (with_reducible refine Zko ?_)
    | (with_reducible refine Zkp ?_)
    | ((with_reducible refine ZoQ ?_ ?_) <;> (intro f; (try replace f:=Classical.not_not.1 f); have g:=nrm f; try replace f:=eqI f))
    | ((with_reducible refine Zm0 ?_ ?_) <;> (intro f; (try replace f:=Classical.not_not.1 f); have g:=nrm f; try replace f:=eqI f))
    | ((with_reducible refine YM ?_ ?_); · simp[-Int.ofNat_toNat,bV, *]; omega)
    | ((with_reducible refine YN ?_ ?_); · simp[-Int.ofNat_toNat,bV, *]; omega)
    | ((with_reducible refine ZaW ?_ ?_); · simp[-Int.ofNat_toNat,bV, *]; omega)
    | ((with_reducible refine ZaX ?_ ?_); · simp[-Int.ofNat_toNat,bV, *]; omega)
    | ((with_reducible refine ZoR ?_); intro e; (try rw[e]))
    | ((fail_if_success (have:v=true:=by assumption)); (fail_if_success (have:v=false:=by assumption)); (with_reducible refine ZlM v ?_ ?_) <;> (intro f; try (exfalso; simp_all; done)))
    | (intro _; simp[-Int.ofNat_toNat,Xj,ZI, *]; done)
    | (intro _; simp only[pq,reduceCtorEq]; simp[-Int.ofNat_toNat,und,List.replicate,Nat.add_assoc,upd,ZjU,updB, *]; done))):P:=t R1 k1 ⟨rfl⟩ R2 k2 ⟨rfl⟩ R3 k3 ⟨rfl⟩
theorem auL {P:Prop}{R1 R2 R3:Prop}(k1:R1:=by exact trivial) (k2:R2:=by exact trivial) (k3:R3:=by exact trivial) (t:∀ X1:Prop,X1→Zbt X1 R1→∀ X2:Prop,X2→Zbt X2 R2→∀ X3:Prop,X3→Zbt X3 R3→P:=by
  intro X1 x1 e1 X2 x2 e2 X3 x3 e3;try simp only[upd,ZjU,updB,setB,List.foldl,List.set,und,List.replicate,List.cons_append,List.nil_append,reduceIte,Nat.lt_irrefl,Nat.reduceLT]
  repeat' (first
    | (with_reducible refine ZlJ ?_)
    | (with_reducible refine ZlI (by assumption) ?_)
    | ((with_reducible refine Zmb ?_); intro v f f f)
    | (with_reducible refine Zkl (by assumption) ?_)
    | ((with_reducible refine ZmZ ?_); intro f; try simp only[List.length_replicate,List.length_set,List.length_take,List.length_drop,List.length_append] at f)
    | ((with_reducible refine ZlH ?_); intro v f f; try simp only[Con.Q,kS,nf,nfs,Yi,Ziw,ZkA,E57,R57,E90,R90,Zll,ZmQ,Zlm,ZmR,Zix,ZkB,Ziy,ZkC,Zjk,Zln,Zjl,Zlo,E23_1,E171_2,E172_3,E49,R49,Zdi,ZfP,Zdj,ZfQ,E66,R66,E33,R33,Zjm,Zlp,E217_7,Zgk,Ziz,List.length_replicate,List.length_set] at f)
    | ((with_reducible refine Zm2 ?_); intro e; subst e; refine ZlL ?_)
    | ((with_reducible refine Zm1 ?_); intro v e; (try rw[e]))
    | (with_reducible refine Zjq ?_)
    | (with_reducible exact im_none)
    | (with_reducible exact Zkm)
    | ((with_reducible refine ZaD ?_); (repeat (first | revert f | revert g | revert e | revert v)); exact Zg8 e1 x1)
    | ((with_reducible refine ZaD ?_); (repeat (first | revert f | revert g | revert e | revert v)); exact Zg8 e2 x2)
    | ((with_reducible refine ZaD ?_); (repeat (first | revert f | revert g | revert e | revert v)); exact Zg8 e3 x3)
    | (with_reducible refine Zgb ?_)
    | (with_reducible refine Zco ?_)
    | (with_reducible refine Zbu ?_)
    | (with_reducible refine Zcp ?_)
    | (with_reducible refine Zdq ?_)
    | (with_reducible refine Zgc ?_)
    | (with_reducible refine Zif ?_)
    | (with_reducible refine Zig ?_)
    | (with_reducible refine ZjT ?_)
    | ((with_reducible refine YM ?_ ?_); · simp[-Int.ofNat_toNat,bV, *]; done)
    | ((with_reducible refine YN ?_ ?_); · simp[-Int.ofNat_toNat,bV, *]; done)
    | (refine Zdp rfl rgL ?_)
    | (refine Zcn rfl drL (by kernel_rfl) ?_)
    | ((with_reducible refine ZaW ?_ ?_); · simp[-Int.ofNat_toNat,bV, *]; done)
    | ((with_reducible refine ZaX ?_ ?_); · simp[-Int.ofNat_toNat,bV, *]; done)
    | (refine ZjS rfl rgL ?_)
    | (refine Zie rfl drL (by kernel_rfl) ?_)
    | (refine Zgd ?_ (by simp only[pq,reduceCtorEq]; rfl))
    | (refine Zgd ?_ (if_neg (by decide)))
    | (with_reducible refine ZfN (by assumption) ?_)
    | (with_reducible refine ZfN (of_eq_true (by assumption)) ?_)
    | (with_reducible refine Zmc (by assumption) ?_)
    | (with_reducible refine ZdK (by assumption) ?_)
    | (with_reducible refine ZdK (of_eq_true (by assumption)) ?_)
    | (with_reducible refine Zkn (by assumption) ?_)
    | (with_reducible refine ZlK ?_)
    | (with_reducible refine Zko ?_)
    | (with_reducible refine Zkp ?_)
    | ((with_reducible refine ZoQ ?_ ?_) <;> (intro f; (try replace f:=Classical.not_not.1 f); have g:=nrm f; try replace f:=eqI f))
    | ((with_reducible refine Zm0 ?_ ?_) <;> (intro f; (try replace f:=Classical.not_not.1 f); have g:=nrm f; try replace f:=eqI f))
    | ((with_reducible refine YM ?_ ?_); · simp[-Int.ofNat_toNat,bV, *]; omega)
    | ((with_reducible refine YN ?_ ?_); · simp[-Int.ofNat_toNat,bV, *]; omega)
    | ((with_reducible refine ZaW ?_ ?_); · simp[-Int.ofNat_toNat,bV, *]; omega)
    | ((with_reducible refine ZaX ?_ ?_); · simp[-Int.ofNat_toNat,bV, *]; omega)
    | ((with_reducible refine ZoR ?_); intro e; (try rw[e]))
    | ((fail_if_success (have:v=true:=by assumption)); (fail_if_success (have:v=false:=by assumption)); (with_reducible refine ZlM v ?_ ?_) <;> (intro f; try (exfalso; simp_all; done)))
    | (intro _; simp[-Int.ofNat_toNat,Xj,ZI, *]; done)
    | (intro _; simp only[pq,reduceCtorEq]; simp[-Int.ofNat_toNat,und,List.replicate,Nat.add_assoc,upd,ZjU,updB, *]; done))):P:=t R1 k1 ⟨rfl⟩ R2 k2 ⟨rfl⟩ R3 k3 ⟨rfl⟩
theorem auR {P:Prop}{R1 R2 R3:Prop}(k1:R1:=by exact trivial) (k2:R2:=by exact trivial) (k3:R3:=by exact trivial) (t:∀ X1:Prop,X1→Zbt X1 R1→∀ X2:Prop,X2→Zbt X2 R2→∀ X3:Prop,X3→Zbt X3 R3→P:=by
  intro X1 x1 e1 X2 x2 e2 X3 x3 e3;try simp only[upd,ZjU,updB,setB,List.foldl,List.set,und,List.replicate,List.cons_append,List.nil_append,reduceIte,Nat.lt_irrefl,Nat.reduceLT]
  repeat' (first
    | (with_reducible refine ZlJ ?_)
    | (with_reducible refine ZlI (by assumption) ?_)
    | ((with_reducible refine Zmb ?_); intro v f f f)
    | (with_reducible refine Zkl (by assumption) ?_)
    | ((with_reducible refine ZmZ ?_); intro f; try simp only[List.length_replicate,List.length_set,List.length_take,List.length_drop,List.length_append] at f)
    | ((with_reducible refine ZlH ?_); intro v f f; try simp only[Con.Q,kS,nf,nfs,Yi,Ziw,ZkA,E57,R57,E90,R90,Zll,ZmQ,Zlm,ZmR,Zix,ZkB,Ziy,ZkC,Zjk,Zln,Zjl,Zlo,E23_1,E171_2,E172_3,E49,R49,Zdi,ZfP,Zdj,ZfQ,E66,R66,E33,R33,Zjm,Zlp,E217_7,Zgk,Ziz,List.length_replicate,List.length_set] at f)
    | ((with_reducible refine Zm2 ?_); intro e; subst e; refine ZlL ?_)
    | ((with_reducible refine Zm1 ?_); intro v e; (try rw[e]))
    | (with_reducible refine Zjq ?_)
    | (with_reducible exact im_none)
    | (with_reducible exact Zkm)
    | ((with_reducible refine ZaD ?_); (repeat (first | revert f | revert g | revert e | revert v)); exact Zg8 e1 x1)
    | ((with_reducible refine ZaD ?_); (repeat (first | revert f | revert g | revert e | revert v)); exact Zg8 e2 x2)
    | ((with_reducible refine ZaD ?_); (repeat (first | revert f | revert g | revert e | revert v)); exact Zg8 e3 x3)
    | (with_reducible refine Zgb ?_)
    | (with_reducible refine Zco ?_)
    | (with_reducible refine Zbu ?_)
    | (with_reducible refine Zcp ?_)
    | (with_reducible refine Zdq ?_)
    | (with_reducible refine Zgc ?_)
    | (with_reducible refine Zif ?_)
    | (with_reducible refine Zig ?_)
    | (with_reducible refine ZjT ?_)
    | ((with_reducible refine YM ?_ ?_); · simp[-Int.ofNat_toNat,bV, *]; done)
    | ((with_reducible refine YN ?_ ?_); · simp[-Int.ofNat_toNat,bV, *]; done)
    | (refine Zdp rfl rgR ?_)
    | (refine Zcn rfl drR (by kernel_rfl) ?_)
    | ((with_reducible refine ZaW ?_ ?_); · simp[-Int.ofNat_toNat,bV, *]; done)
    | ((with_reducible refine ZaX ?_ ?_); · simp[-Int.ofNat_toNat,bV, *]; done)
    | (refine ZjS rfl rgR ?_)
    | (refine Zie rfl drR (by kernel_rfl) ?_)
    | (refine Zgd ?_ (by simp only[pq,reduceCtorEq]; rfl))
    | (refine Zgd ?_ (if_neg (by decide)))
    | (with_reducible refine ZfN (by assumption) ?_)
    | (with_reducible refine ZfN (of_eq_true (by assumption)) ?_)
    | (with_reducible refine Zmc (by assumption) ?_)
    | (with_reducible refine ZdK (by assumption) ?_)
    | (with_reducible refine ZdK (of_eq_true (by assumption)) ?_)
    | (with_reducible refine Zkn (by assumption) ?_)
    | (with_reducible refine ZlK ?_)
    | (with_reducible refine Zko ?_)
    | (with_reducible refine Zkp ?_)
    | ((with_reducible refine ZoQ ?_ ?_) <;> (intro f; (try replace f:=Classical.not_not.1 f); have g:=nrm f; try replace f:=eqI f))
    | ((with_reducible refine Zm0 ?_ ?_) <;> (intro f; (try replace f:=Classical.not_not.1 f); have g:=nrm f; try replace f:=eqI f))
    | ((with_reducible refine YM ?_ ?_); · simp[-Int.ofNat_toNat,bV, *]; omega)
    | ((with_reducible refine YN ?_ ?_); · simp[-Int.ofNat_toNat,bV, *]; omega)
    | ((with_reducible refine ZaW ?_ ?_); · simp[-Int.ofNat_toNat,bV, *]; omega)
    | ((with_reducible refine ZaX ?_ ?_); · simp[-Int.ofNat_toNat,bV, *]; omega)
    | ((with_reducible refine ZoR ?_); intro e; (try rw[e]))
    | ((fail_if_success (have:v=true:=by assumption)); (fail_if_success (have:v=false:=by assumption)); (with_reducible refine ZlM v ?_ ?_) <;> (intro f; try (exfalso; simp_all; done)))
    | (intro _; simp[-Int.ofNat_toNat,Xj,ZI, *]; done)
    | (intro _; simp only[pq,reduceCtorEq]; simp[-Int.ofNat_toNat,und,List.replicate,Nat.add_assoc,upd,ZjU,updB, *]; done))):P:=t R1 k1 ⟨rfl⟩ R2 k2 ⟨rfl⟩ R3 k3 ⟨rfl⟩
instance { y}:Fc (Llaw22_sane=some y) (K5.Q () y):=⟨K5.q0⟩
instance {a y}:Fc (Zh0 a=some y) (K111.Q a y):=⟨K111.q1⟩
instance { y}:Fc (Lref03_Initial=some y) (K112.Q () y):=⟨K112.q0⟩
instance {a b y}:Fc (YS a b=some y) (K199.Q (a,b) y):=⟨K199.q2⟩
instance {a b y}:Fc (YZ a b=some y) (K166.Q (a,b) y):=⟨K166.q2⟩
instance {a y}:Fc (ZcJ a=some y) (K164.Q a y):=⟨K164.q1⟩
instance { y}:Fc (Lref03_constants=some y) (K165.Q () y):=⟨K165.q0⟩
instance {a b y}:Fc (XL a b=some y) (G113 (Ziw (a,b))=some (ZkA (a,b) y)):=⟨Zt8⟩
instance {a y}:Fc (Y7 a=some y) (G57 (E57 a)=some (R57 a y)):=⟨Zs2⟩
instance {a y}:Fc (Zaf a=some y) (K25.Q a y):=⟨K25.q1⟩
instance {a b y}:Fc (Yf a b=some y) (K114.Q (a,b) y):=⟨K114.q2⟩
instance {a b y}:Fc (Yg a b=some y) (K115.Q (a,b) y):=⟨K115.q2⟩
instance {a b y}:Fc (Z3 a b=some y) (K58.Q (a,b) y):=⟨K58.q2⟩
instance {a b y}:Fc (YC a b=some y) (K59.Q (a,b) y):=⟨K59.q2⟩
instance {a y}:Fc (Zbf a=some y) (K147.Q a y):=⟨K147.q1⟩
instance {a b y}:Fc (YB a b=some y) (K149.Q (a,b) y):=⟨K149.q2⟩
instance {a b y}:Fc (Xg a b=some y) (K148.Q (a,b) y):=⟨K148.q2⟩
instance {a b y}:Fc (ZbW a b=some y) (K212.Q (a,b) y):=⟨K212.q2⟩
instance {a y}:Fc (ZeH a=some y) (K183.Q a y):=⟨K183.q1⟩
instance {a b y}:Fc (ZaI a b=some y) (K139.Q (a,b) y):=⟨K139.q2⟩
instance {a y}:Fc (ZaE a=some y) (K136.Q a y):=⟨K136.q1⟩
instance {a y}:Fc (ZgS a=some y) (K140.Q a y):=⟨K140.q1⟩
instance {a y}:Fc (Y0 a=some y) (K88.Q a y):=⟨K88.q1⟩
instance {a b y}:Fc (ZgT a b=some y) (K213.Q (a,b) y):=⟨K213.q2⟩
instance {a y}:Fc (ZbN a=some y) (K184.Q a y):=⟨K184.q1⟩
instance {a y}:Fc (Zds a=some y) (K141.Q a y):=⟨K141.q1⟩
instance {a y}:Fc (Zci a=some y) (K84.Q a y):=⟨K84.q1⟩
instance {a y}:Fc (ZfS a=some y) (K80.Q a y):=⟨K80.q1⟩
instance {a y}:Fc (Zbe a=some y) (K93.Q a y):=⟨K93.q1⟩
instance {a y}:Fc (Zjp a=some y) (K189.Q a y):=⟨K189.q1⟩
instance {a b y}:Fc (ZgW a b=some y) (K150.Q (a,b) y):=⟨K150.q2⟩
instance {a b c y}:Fc (YP a b c=some y) (G90 (E90 (a,b,c))=some (R90 (a,b,c) y)):=⟨ZwI⟩
instance { y}:Fc (Lmade_Null=some y) (K151.Q () y):=⟨K151.q0⟩
instance {a b c y}:Fc (Zfv a b c=some y) (K91.Q (a,b,c) y):=⟨K91.q3⟩
instance {a b y}:Fc (Zbl a b=some y) (K162.Q (a,b) y):=⟨K162.q2⟩
instance {a b y}:Fc (Zbm a b=some y) (K108.Q (a,b) y):=⟨K108.q2⟩
instance {a y}:Fc (Zcg a=some y) (K163.Q a y):=⟨K163.q1⟩
instance {a y}:Fc (Zav a=some y) (K194.Q a y):=⟨K194.q1⟩
instance {a y}:Fc (Zch a=some y) (K197.Q a y):=⟨K197.q1⟩
instance {a b c y}:Fc (Xn a b c=some y) (G221 (Zll (a,b,c))=some (ZmQ (a,b,c) y)):=⟨Zy1⟩
instance {a b y}:Fc (Zf6 a b=some y) (K222.Q (a,b) y):=⟨K222.q2⟩
instance {a b y}:Fc (Zf7 a b=some y) (K198.Q (a,b) y):=⟨K198.q2⟩
instance {a y}:Fc (ZbM a=some y) (K159.Q a y):=⟨K159.q1⟩
instance {a b y}:Fc (Xm a b=some y) (K160.Q (a,b) y):=⟨K160.q2⟩
instance {a y}:Fc (Xr a=some y) (K110.Q a y):=⟨K110.q1⟩
instance {a b y}:Fc (Zb7 a b=some y) (K92.Q (a,b) y):=⟨K92.q2⟩
instance {a y}:Fc (XD a=some y) (K26.Q a y):=⟨K26.q1⟩
instance {a y}:Fc (Xt a=some y) (K9.Q a y):=⟨K9.q1⟩
instance {a b y}:Fc (Xk a b=some y) (K173.Q (a,b) y):=⟨K173.q2⟩
instance {a b y}:Fc (Zh8 a b=some y) (K193.Q (a,b) y):=⟨K193.q2⟩
instance {a b c y}:Fc (ZaU a b c=some y) (G238 (Zlm (a,b,c))=some (ZmR (a,b,c) y)):=⟨Zy2⟩
instance {a b y}:Fc (Zh4 a b=some y) (K223.Q (a,b) y):=⟨K223.q2⟩
instance {a b c y}:Fc (Zh9 a b c=some y) (K195.Q (a,b,c) y):=⟨K195.q3⟩
instance {a y}:Fc (ZdG a=some y) (K196.Q a y):=⟨K196.q1⟩
instance {a b c d y}:Fc (Zex a b c d=some y) (K158.Q (a,b,c,d) y):=⟨K158.q4⟩
instance {a b y}:Fc (Zd9 a b=some y) (K104.Q (a,b) y):=⟨K104.q2⟩
instance {a y}:Fc (ZaV a=some y) (K161.Q a y):=⟨K161.q1⟩
instance {a b y}:Fc (Zd0 a b=some y) (K105.Q (a,b) y):=⟨K105.q2⟩
instance {a y}:Fc (Zc7 a=some y) (K106.Q a y):=⟨K106.q1⟩
instance {a b c d y}:Fc (ZgX a b c d=some y) (K94.Q (a,b,c,d) y):=⟨K94.q4⟩
instance {a y}:Fc (Zgx a=some y) (K95.Q a y):=⟨K95.q1⟩
instance {a b c d y}:Fc (ZfE a b c d=some y) (K50.Q (a,b,c,d) y):=⟨K50.q4⟩
instance {a b y}:Fc (Zeu a b=some y) (K182.Q (a,b) y):=⟨K182.q2⟩
instance {a y}:Fc (Zev a=some y) (K137.Q a y):=⟨K137.q1⟩
instance {a y}:Fc (Zfa a=some y) (K77.Q a y):=⟨K77.q1⟩
instance {a y}:Fc (Ze6 a=some y) (K138.Q a y):=⟨K138.q1⟩
instance {a y}:Fc (XJ a=some y) (K78.Q a y):=⟨K78.q1⟩
instance {a y}:Fc (ZdS a=some y) (K79.Q a y):=⟨K79.q1⟩
instance {a b y}:Fc (Zbo a b=some y) (K81.Q (a,b) y):=⟨K81.q2⟩
instance {a b y}:Fc (Za3 a b=some y) (K82.Q (a,b) y):=⟨K82.q2⟩
instance {a y}:Fc (Zcx a=some y) (K83.Q a y):=⟨K83.q1⟩
instance {a y}:Fc (X8 a=some y) (K39.Q a y):=⟨K39.q1⟩
instance {a b y}:Fc (Xa a b=some y) (G190 (Zix (a,b))=some (ZkB (a,b) y)):=⟨Zt9⟩
instance {a y}:Fc (Zd4 a=some y) (K152.Q a y):=⟨K152.q1⟩
instance {a b y}:Fc (ZaG a b=some y) (G153 (Ziy (a,b))=some (ZkC (a,b) y)):=⟨Zua⟩
instance {a b c y}:Fc (Zfy a b c=some y) (K96.Q (a,b,c) y):=⟨K96.q3⟩
instance {a b y}:Fc (Zdt a b=some y) (K100.Q (a,b) y):=⟨K100.q2⟩
instance {a y}:Fc (Zbr a=some y) (K154.Q a y):=⟨K154.q1⟩
instance {a b c d y}:Fc (Zfz a b c d=some y) (K97.Q (a,b,c,d) y):=⟨K97.q4⟩
instance {a b y}:Fc (ZhZ a b=some y) (K155.Q (a,b) y):=⟨K155.q2⟩
instance {a b y}:Fc (ZaK a b=some y) (G218 (Zjk (a,b))=some (Zln (a,b) y)):=⟨Zy3⟩
instance {a b c y}:Fc (ZdH a b c=some y) (K191.Q (a,b,c) y):=⟨K191.q3⟩
instance {a b c y}:Fc (Za6 a b c=some y) (K192.Q (a,b,c) y):=⟨K192.q3⟩
instance {a b c d y}:Fc (ZfF a b c d=some y) (K156.Q (a,b,c,d) y):=⟨K156.q4⟩
instance {a b c y}:Fc (ZfG a b c=some y) (K98.Q (a,b,c) y):=⟨K98.q3⟩
instance {a b y}:Fc (ZdD a b=some y) (K99.Q (a,b) y):=⟨K99.q2⟩
instance {a b y}:Fc (Za4 a b=some y) (K103.Q (a,b) y):=⟨K103.q2⟩
instance {a b y}:Fc (Zcj a b=some y) (G157 (Zjl (a,b))=some (Zlo (a,b) y)):=⟨Zy4⟩
instance {a b c y}:Fc (Zh6 a b c=some y) (K101.Q (a,b,c) y):=⟨K101.q3⟩
instance {a y}:Fc (Zd5 a=some y) (K102.Q a y):=⟨K102.q1⟩
instance {a b c y}:Fc (ZcP a b c=some y) (K51.Q (a,b,c) y):=⟨K51.q3⟩
instance {a b y}:Fc (ZgU a b=some y) (K107.Q (a,b) y):=⟨K107.q2⟩
instance {a b c y}:Fc (Zb9 a b c=some y) (K53.Q (a,b,c) y):=⟨K53.q3⟩
instance {a b c d y}:Fc (Zc8 a b c d=some y) (K52.Q (a,b,c,d) y):=⟨K52.q4⟩
instance {a y}:Fc (ZjI a=some y) (K109.Q a y):=⟨K109.q1⟩
instance {a y}:Fc (ZfA a=some y) (K54.Q a y):=⟨K54.q1⟩
instance {a y}:Fc (ZfB a=some y) (K55.Q a y):=⟨K55.q1⟩
instance {a y}:Fc (ZfC a=some y) (K56.Q a y):=⟨K56.q1⟩
instance {a y}:Fc (ZgV a=some y) (K24.Q a y):=⟨K24.q1⟩
instance {a b y}:Fc (ZgY a b=some y) (K23_1.Q (a,b) y):=⟨K23_1.q2⟩
instance {a b y}:Fc (ZfH a b=some y) (K6.Q (a,b) y):=⟨K6.q2⟩
instance {a b y}:Fc (Zia a b=some y) (K7.Q (a,b) y):=⟨K7.q2⟩
instance {a y}:Fc (ZiM a=some y) (K8.Q a y):=⟨K8.q1⟩
instance {a b y}:Fc (YK a b=some y) (K116.Q (a,b) y):=⟨K116.q2⟩
instance {a b y}:Fc (Xq a b=some y) (K167.Q (a,b) y):=⟨K167.q2⟩
instance {a b y}:Fc (ZbV a b=some y) (K117.Q (a,b) y):=⟨K117.q2⟩
instance {a b y}:Fc (Ya a b=some y) (K118.Q (a,b) y):=⟨K118.q2⟩
instance {a b y}:Fc (ZaN a b=some y) (K119.Q (a,b) y):=⟨K119.q2⟩
instance {a b y}:Fc (YA a b=some y) (K60.Q (a,b) y):=⟨K60.q2⟩
instance {a b y}:Fc (Xx a b=some y) (K120.Q (a,b) y):=⟨K120.q2⟩
instance {a y}:Fc (XC a=some y) (K61.Q a y):=⟨K61.q1⟩
instance {a y}:Fc (ZfR a=some y) (K68.Q a y):=⟨K68.q1⟩
instance {a b y}:Fc (Xf a b=some y) (K71.Q (a,b) y):=⟨K71.q2⟩
instance {a b y}:Fc (Zf1 a b=some y) (K122.Q (a,b) y):=⟨K122.q2⟩
instance {a y}:Fc (Zi8 a=some y) (K121.Q a y):=⟨K121.q1⟩
instance {a b y}:Fc (Zdo a b=some y) (K62.Q (a,b) y):=⟨K62.q2⟩
instance {a y}:Fc (Zc6 a=some y) (K27.Q a y):=⟨K27.q1⟩
instance {a y}:Fc (ZbK a=some y) (K63.Q a y):=⟨K63.q1⟩
instance {a y}:Fc (Zkd a=some y) (K28.Q a y):=⟨K28.q1⟩
instance {a y}:Fc (Zj9 a=some y) (K129.Q a y):=⟨K129.q1⟩
instance {a y}:Fc (Zka a=some y) (K130.Q a y):=⟨K130.q1⟩
instance {a b y}:Fc (X4 a b=some y) (K179.Q (a,b) y):=⟨K179.q2⟩
instance {a y}:Fc (Zeo a=some y) (K178.Q a y):=⟨K178.q1⟩
instance {a b y}:Fc (Zep a b=some y) (K131.Q (a,b) y):=⟨K131.q2⟩
instance {a y}:Fc (Zhr a=some y) (K69.Q a y):=⟨K69.q1⟩
instance {a y}:Fc (Zcf a=some y) (K32.Q a y):=⟨K32.q1⟩
instance {a y}:Fc (Ze8 a=some y) (K29.Q a y):=⟨K29.q1⟩
instance {a y}:Fc (Zaj a=some y) (K200.Q a y):=⟨K200.q1⟩
instance {a b y}:Fc (Y4 a b=some y) (K168.Q (a,b) y):=⟨K168.q2⟩
instance {a y}:Fc (Yc a=some y) (K123.Q a y):=⟨K123.q1⟩
instance {a y}:Fc (ZgN a=some y) (K169.Q a y):=⟨K169.q1⟩
instance {a y}:Fc (ZgO a=some y) (K170.Q a y):=⟨K170.q1⟩
instance {a b y}:Fc (X6 a b=some y) (K171_2.Q (a,b) y):=⟨K171_2.q2⟩
instance {a b c y}:Fc (ZaA a b c=some y) (K172_3.Q (a,b,c) y):=⟨K172_3.q3⟩
instance {a b c y}:Fc (ZaS a b c=some y) (K124.Q (a,b,c) y):=⟨K124.q3⟩
instance {a b y}:Fc (Zb2 a b=some y) (K64.Q (a,b) y):=⟨K64.q2⟩
instance {a b y}:Fc (ZjF a b=some y) (K125.Q (a,b) y):=⟨K125.q2⟩
instance {a b y}:Fc (Zx a b=some y) (K201.Q (a,b) y):=⟨K201.q2⟩
instance {a b y}:Fc (ZgP a b=some y) (K175.Q (a,b) y):=⟨K175.q2⟩
instance {a b y}:Fc (Ze7 a b=some y) (K174.Q (a,b) y):=⟨K174.q2⟩
instance {a b y}:Fc (Zkb a b=some y) (K126.Q (a,b) y):=⟨K126.q2⟩
instance {a y}:Fc (Yx a=some y) (G49 (E49 a)=some (R49 a y)):=⟨ZzP⟩
instance {a y}:Fc (ZdA a=some y) (K177.Q a y):=⟨K177.q1⟩
instance {a b c y}:Fc (Zw a b c=some y) (G202_4 (Zdi (a,b,c))=some (ZfP (a,b,c) y)):=⟨Zrv⟩
instance {a b c d y}:Fc (YG a b c d=some y) (G176_5 (Zdj (a,b,c,d))=some (ZfQ (a,b,c,d) y)):=⟨ZwJ⟩
instance {a y}:Fc (Yp a=some y) (K127_6.Q a y):=⟨K127_6.q1⟩
instance {a b c d y}:Fc (ZcO a b c d=some y) (K65.Q (a,b,c,d) y):=⟨K65.q4⟩
instance {a b c d y}:Fc (ZdF a b c d=some y) (K30.Q (a,b,c,d) y):=⟨K30.q4⟩
instance {a y}:Fc (Yv a=some y) (G66 (E66 a)=some (R66 a y)):=⟨ZzQ⟩
instance {a y}:Fc (Zl8 a=some y) (K128.Q a y):=⟨K128.q1⟩
instance {a y}:Fc (Zcu a=some y) (K67.Q a y):=⟨K67.q1⟩
instance {a y}:Fc (Zb5 a=some y) (K31.Q a y):=⟨K31.q1⟩
instance {a y}:Fc (Zck a=some y) (K10.Q a y):=⟨K10.q1⟩
instance {a y}:Fc (ZZ a=some y) (G33 (E33 a)=some (R33 a y)):=⟨ZzS⟩
instance {a b y}:Fc (Zb4 a b=some y) (K11.Q (a,b) y):=⟨K11.q2⟩
instance {a y}:Fc (ZdB a=some y) (K34.Q a y):=⟨K34.q1⟩
instance {a y}:Fc (ZdY a=some y) (K12.Q a y):=⟨K12.q1⟩
instance {a y}:Fc (Xd a=some y) (K45.Q a y):=⟨K45.q1⟩
instance {a b y}:Fc (Xo a b=some y) (K46.Q (a,b) y):=⟨K46.q2⟩
instance {a y}:Fc (Yu a=some y) (K35.Q a y):=⟨K35.q1⟩
instance {a y}:Fc (Zjo a=some y) (K132.Q a y):=⟨K132.q1⟩
instance {a y}:Fc (Zhq a=some y) (K72.Q a y):=⟨K72.q1⟩
instance {a b y}:Fc (Zf3 a b=some y) (K180.Q (a,b) y):=⟨K180.q2⟩
instance {a y}:Fc (ZmW a=some y) (K133.Q a y):=⟨K133.q1⟩
instance {a y}:Fc (ZfI a=some y) (K73.Q a y):=⟨K73.q1⟩
instance {a y}:Fc (Zkk a=some y) (K134.Q a y):=⟨K134.q1⟩
instance {a b y}:Fc (ZfJ a b=some y) (K211.Q (a,b) y):=⟨K211.q2⟩
instance {a y}:Fc (ZdI a=some y) (K181.Q a y):=⟨K181.q1⟩
instance {a y}:Fc (ZfK a=some y) (K135.Q a y):=⟨K135.q1⟩
instance {a y}:Fc (ZgZ a=some y) (K74.Q a y):=⟨K74.q1⟩
instance {a y}:Fc (ZfL a=some y) (K36.Q a y):=⟨K36.q1⟩
instance {a b y}:Fc (Zay a b=some y) (K37.Q (a,b) y):=⟨K37.q2⟩
instance {a b c y}:Fc (ZdJ a b c=some y) (K13.Q (a,b,c) y):=⟨K13.q3⟩
instance {a b y}:Fc (ZiN a b=some y) (K75.Q (a,b) y):=⟨K75.q2⟩
instance {a y}:Fc (Zey a=some y) (K76.Q a y):=⟨K76.q1⟩
instance {a y}:Fc (Zea a=some y) (K38.Q a y):=⟨K38.q1⟩
instance {a b y}:Fc (ZgQ a b=some y) (K185.Q (a,b) y):=⟨K185.q2⟩
instance {a y}:Fc (Xl a=some y) (G142 (Zjm a)=some (Zlp a y)):=⟨Zy5⟩
instance {a b y}:Fc (Zht a b=some y) (K186.Q (a,b) y):=⟨K186.q2⟩
instance {a y}:Fc (Zdr a=some y) (K146.Q a y):=⟨K146.q1⟩
instance {a y}:Fc (X7 a=some y) (K215.Q a y):=⟨K215.q1⟩
instance {a b y}:Fc (Zc5 a b=some y) (K214.Q (a,b) y):=⟨K214.q2⟩
instance {a b y}:Fc (ZjH a b=some y) (K187.Q (a,b) y):=⟨K187.q2⟩
instance {a b c d y}:Fc (Zft a b c d=some y) (K143.Q (a,b,c,d) y):=⟨K143.q4⟩
instance {a b y}:Fc (Zh2 a b=some y) (K229.Q (a,b) y):=⟨K229.q2⟩
instance {a y}:Fc (Zfs a=some y) (K216.Q a y):=⟨K216.q1⟩
instance {a b y}:Fc (ZeK a b=some y) (K217_7.Q (a,b) y):=⟨K217_7.q2⟩
instance {a b c y}:Fc (Zaq a b c=some y) (K188.Q (a,b,c) y):=⟨K188.q3⟩
instance {a b y}:Fc (Zc4 a b=some y) (K144.Q (a,b) y):=⟨K144.q2⟩
instance {a y}:Fc (Zgw a=some y) (G145 (Zgk a)=some (Ziz a y)):=⟨Zy6⟩
instance {a b c d y}:Fc (Zfu a b c d=some y) (K85.Q (a,b,c,d) y):=⟨K85.q4⟩
instance {a y}:Fc (Zh7 a=some y) (K86.Q a y):=⟨K86.q1⟩
instance {a y}:Fc (ZcN a=some y) (K87.Q a y):=⟨K87.q1⟩
instance {a y}:Fc (Zhu a=some y) (K40.Q a y):=⟨K40.q1⟩
instance {a b y}:Fc (Zer a b=some y) (K41.Q (a,b) y):=⟨K41.q2⟩
instance {a y}:Fc (Zes a=some y) (K89.Q a y):=⟨K89.q1⟩
instance {a y}:Fc (ZgR a=some y) (K42.Q a y):=⟨K42.q1⟩
instance {a b y}:Fc (Zez a b=some y) (K43.Q (a,b) y):=⟨K43.q2⟩
instance {a b c y}:Fc (ZfM a b c=some y) (K14.Q (a,b,c) y):=⟨K14.q3⟩
instance {a b y}:Fc (ZcU a b=some y) (K15.Q (a,b) y):=⟨K15.q2⟩
end Go.Proofs.YtbppknpnmjhjpaaGreatDoor
