import Derived.Test.YtbppknpnmjhjpaaGreatDoorLcG3
import Derived.Test.YtbppknpnmjhjpaaGreatDoorLcG1
import Derived.Test.YtbppknpnmjhjpaaGreatDoorLcG1
import Derived.Test.YtbppknpnmjhjpaaGreatDoorLcG4
import Derived.Test.YtbppknpnmjhjpaaGreatDoorTt
namespace Go.Proofs.YtbppknpnmjhjpaaGreatDoor
open Go.RowKit
open Go.Av
open Go.Lc
set_option maxRecDepth 100000
set_option linter.unusedSimpArgs false
set_option linter.unusedVariables false
attribute [simp] tt1 tt2 tt3 tt4 tt5 tt6 tt7 tt8 tt9 tt10 tt11 tt12 tt13 tt14 tt15 tt16 tt17 tt18 tt19 tt21 tt22 tt23 tt24 tt25 tt26 tt27 tt28 tt29 tt30 tt31 tt32 tt33 tt34 tt35 tt36 tt37 tt38 tt39 tt40 tt41 tt42 tt43 tt44 tt45 tt46 tt47 tt48 tt49 tt50 tt51 tt52 tt53 tt55 tt56 tt57 tt58 tt59 tt60 tt62 tt63 tt64 tt65 tt66 tt67 tt73 tt74 tt75 tt76 tt77 tt78 tt79 tt80 tt82 tt83 tt84 tt87 tt97 tt98 tt99 tt100 tt101 tt102 tt104 tt105 tt118 tt119 tt120 tt121 tt124 tt126 tt128 tt129 tt132 tt133 tt134 tt135 tt145 tt158 tt159 tt169 tt170 tt176 tt178 tt183 tt186 tt187 tt195 tt196 tt199 tt219 tt225 tt229 tt230 tt233 tt239 tt248 tt249 tt260 tt274 tt285 tt290 tt291 tt292 tt294 tt295 tt304 tt326 tt327 tt328 tt329 tt330 tt332 tt333 tt334 tt335 tt336 tt337 tt338 tt339 ti1 ti2 ti3 ti4 ti5 ti6 ti7 ti8 ti9 ti10 ti11 ti12 ti13 ti14 ti15 ti16 ti17 ti18 ti19 ti21 ti22 ti23 ti24 ti25 ti26 ti27 ti28 ti29 ti30 ti31 ti32 ti33 ti34 ti35 ti36 ti37 ti38 ti39 ti40 ti41 ti42 ti43 ti44 ti45 ti46 ti47 ti48 ti49 ti50 ti51 ti52 ti53 ti55 ti56 ti57 ti58 ti59 ti60 ti62 ti63 ti64 ti65 ti66 ti67 ti73 ti74 ti75 ti76 ti77 ti78 ti79 ti80 ti82 ti83 ti84 ti87 ti97 ti98 ti99 ti100 ti101 ti102 ti104 ti105 ti118 ti119 ti120 ti121 ti124 ti126 ti128 ti129 ti132 ti133 ti134 ti135 ti145 ti158 ti159 ti169 ti170 ti176 ti178 ti183 ti186 ti187 ti195 ti196 ti199 ti219 ti225 ti229 ti230 ti233 ti239 ti248 ti249 ti260 ti274 ti285 ti290 ti291 ti292 ti294 ti295 ti304 ti326 ti327 ti328 ti329 ti330 ti332 ti333 ti334 ti335 ti336 ti337 ti338 ti339
@[simp] theorem Zz6 {n:Nat}{k:IntKind}{l:List (Arr n)}:l.any ((fun l=>l.any Cell.isSl) ∘ arC k)=false:=by simp[arC,ints]
@[simp↓] theorem ZzO {k:IntKind}(m:List Int) (n:Nat):(∀ l,l∈List.drop n (Zg k m)→l.length=1)=True:=eq_true fun l h=>intsR_all l (List.mem_of_mem_drop h)
@[simp↓] theorem ZzP {k:IntKind}(m:List Int) (n:Nat):(∀ l,l∈List.take n (Zg k m)→l.length=1)=True:=eq_true fun l h=>intsR_all l (List.mem_of_mem_take h)
@[simp↓] theorem ZzQ {k:IntKind}(m:List Int):(∀ l,l∈(Zg k m).tail→l.length=1)=True:=eq_true fun l h=>intsR_all l (List.mem_of_mem_tail h)
@[simp↓] theorem Zzh {k:IntKind}(m:List Int) (n:Nat):(∀ l,l∈List.take n (Zg k m).tail→l.length=1)=True:=eq_true fun l h=>intsR_all l (List.mem_of_mem_tail (List.mem_of_mem_take h))
@[simp↓] theorem Zzi {k:IntKind}(m:List Int) (n:Nat):(∀ l,l∈List.drop n (Zg k m).tail→l.length=1)=True:=eq_true fun l h=>intsR_all l (List.mem_of_mem_tail (List.mem_of_mem_drop h))
@[simp] theorem arC_z8:arC .u64 (zA 8)=arC .u64 (zA 4)++arC .u64 (zA 4):=rfl
@[simp] theorem arC_z12:arC .u64 (zA 12)=arC .u64 (zA 4)++(arC .u64 (zA 4)++arC .u64 (zA 4)):=rfl
theorem az64:arC .u8 (zA 64)=arC .u8 (zA 32)++arC .u8 (zA 32):=rfl
theorem bz4:List.map Zc.cell (zr 4 Zc.nil)=[.slice .nil [],.slice .nil [],.slice .nil [],.slice .nil []]:=rfl
theorem mzD (p:Arr 8):ZE (arC .u64 (zA 4)) 0 (List.drop 4 (Zg .u64 p.l)).flatten=arC .u64 ((zA 4).over (p.l.drop 4)):=by
  have h8:=p.hl
  have e:List.take (min (p.l.drop 4).length 4) (Zg .u64 (p.l.drop 4))=List.drop 4 (Zg .u64 p.l):=by
    have e1:Zg .u64 (p.l.drop 4)=List.drop 4 (Zg .u64 p.l):=by unfold Zg; rw[List.map_drop]
    rw[e1,List.take_of_length_le (by unfold Zg; rw[List.length_drop,List.length_drop,List.length_map]; omega)]
  rw[← e];exact ZoE
theorem mzT (p:Arr 8):ZE (arC .u64 (zA 4)) 0 (List.take 4 (Zg .u64 p.l)).flatten=arC .u64 ((zA 4).over (p.l.take 4)):=by
  have h8:=p.hl
  have e:List.take (min (p.l.take 4).length 4) (Zg .u64 (p.l.take 4))=List.take 4 (Zg .u64 p.l):=by
    have e1:Zg .u64 (p.l.take 4)=List.take 4 (Zg .u64 p.l):=by unfold Zg; rw[List.map_take]
    rw[e1,List.take_of_length_le (by unfold Zg; rw[List.length_take,List.length_take,List.length_map]; omega)]
  rw[← e];exact ZoE
theorem Zua (a:Nat):(1+a≤a+1)=True:=eq_true (by omega)
@[simp] def eapi_Claim (x:Tapi_Claim):List Cell:=(.v (.int .i64 x.1)) :: (arC .u8 x.2)
instance:EnC eapi_Claim 33:=enC
instance:EnP eapi_Claim:=enP
@[simp] def eapi_OutPoint (x:Tapi_OutPoint):List Cell:=(arC .u8 x.1)++((.v (.int .u32 x.2)) :: [])
instance:EnC eapi_OutPoint 33:=enC
instance:EnP eapi_OutPoint:=enP
@[simp] def Y2 (x:Tapi_Output):List Cell:=[.v (.int .i64 x.1),.slice .no (Zg .u8 x.2)]
instance:EnC Y2 2:=enC
@[simp] def Zah (x:(List Int)):List Cell:=[.slice .no (Zg .u8 x)]
instance:EnC Zah 1:=enC
@[simp] def Zbs (x:Tapi_Input):List Cell:=(arC .u8 x.1.1)++((.v (.int .u32 x.1.2)) :: ((.v (.int .u32 x.2.1)) :: ((.slice .no (List.map Zah x.2.2)) :: [])))
instance:EnC Zbs 35:=enC
@[simp] def ZQ (x:Tapi_Tx):List Cell:=[.v (.int .u32 x.1),.slice .no (List.map Zbs x.2.1),.slice .no (List.map Y2 x.2.2.1),.v (.int .u32 x.2.2.2)]
instance:EnC ZQ 4:=enC
@[simp] def ZgA (x:(List (Arr 32))):List Cell:=[.slice .no (List.map (arC .u8) x)]
instance:EnC ZgA 1:=enC
@[simp] def Zs (x:Tapi_Coin):List Cell:=(arC .u8 x.1.1)++((.v (.int .u32 x.1.2)) :: ((.v (.int .i64 x.2.1.1)) :: ((.slice .no (Zg .u8 x.2.1.2)) :: ((.v (.int .i64 x.2.2.1)) :: ((.v (.bool x.2.2.2)) :: [])))))
instance:EnC Zs 37:=enC
@[simp] def eapi_Checkpoint (x:Tapi_Checkpoint):List Cell:=(.v (.int .i64 x.1)) :: (arC .u8 x.2)
instance:EnC eapi_Checkpoint 33:=enC
instance:EnP eapi_Checkpoint:=enP
@[simp] def YH (x:Tapi_Params):List Cell:=(.v (.int .u32 x.1.1)) :: ((arC .u8 x.1.2.1)++((arC .u8 x.1.2.2.1)++((.v (.int .u32 x.1.2.2.2.1)) :: ((.v (.int .u32 x.1.2.2.2.2.1)) :: ((.v (.int .u32 x.1.2.2.2.2.2)) :: ((arC .u64 x.2.1)++((.v (.int .i64 x.2.2.1)) :: ((.v (.int .u32 x.2.2.2.1)) :: ((.v (.int .u32 x.2.2.2.2.1)) :: ((.v (.int .u32 x.2.2.2.2.2.1)) :: ((.slice .no (List.map eapi_Checkpoint x.2.2.2.2.2.2.1)) :: ((.v (.int .i64 x.2.2.2.2.2.2.2.1)) :: ((.v (.int .i64 x.2.2.2.2.2.2.2.2.1)) :: ((.v (.int .i64 x.2.2.2.2.2.2.2.2.2)) :: []))))))))))))))
instance:EnC YH 80:=enC
@[simp] def eapi_Header (x:Tapi_Header):List Cell:=(.v (.int .u32 x.1)) :: ((arC .u8 x.2.1)++((arC .u8 x.2.2.1)++((.v (.int .u32 x.2.2.2.1)) :: ((.v (.int .u32 x.2.2.2.2.1)) :: ((.v (.int .u32 x.2.2.2.2.2)) :: [])))))
instance:EnC eapi_Header 68:=enC
instance:EnP eapi_Header:=enP
@[simp] def Yv (x:Tapi_Context):List Cell:=(.v (.int .i64 x.1)) :: ((arC .u8 x.2.1)++((.v (.int .u32 x.2.2.1)) :: ((.v (.int .u32 x.2.2.2.1)) :: ((.slice .no (Zg .u32 x.2.2.2.2)) :: []))))
instance:EnC Yv 36:=enC
@[simp] def Y3 (x:Tapi_Ledger):List Cell:=(.v (.int .i64 x.1)) :: ((arC .u8 x.2.1)++((.slice .no (List.map Zs x.2.2)) :: []))
instance:EnC Y3 34:=enC
@[simp] def Yq (x:Tapi_Block):List Cell:=(.v (.int .u32 x.1.1)) :: ((arC .u8 x.1.2.1)++((arC .u8 x.1.2.2.1)++((.v (.int .u32 x.1.2.2.2.1)) :: ((.v (.int .u32 x.1.2.2.2.2.1)) :: ((.v (.int .u32 x.1.2.2.2.2.2)) :: ((.slice .no (List.map ZQ x.2)) :: []))))))
instance:EnC Yq 69:=enC
@[simp] def eapi_Env (x:Tapi_Env):List Cell:=(arC .u8 x.1)++((.v (.int .i64 x.2.1)) :: ((.v (.int .i64 x.2.2)) :: []))
instance:EnC eapi_Env 34:=enC
instance:EnP eapi_Env:=enP
@[simp] def Zdm (x:(List Tapi_Coin)):List Cell:=[.slice .no (List.map Zs x)]
instance:EnC Zdm 1:=enC
@[simp] def ZiM (x:Tapi_Bits):List Cell:=[.slice .no (Zg .u8 x.1),.v (.int .i64 x.2)]
instance:EnC ZiM 2:=enC
@[simp] def ZeV (x:Tapi_Filter):List Cell:=[.v (.int .i64 x.1),.slice .no (Zg .u8 x.2)]
instance:EnC ZeV 2:=enC
@[simp] def ZaF (x:Tapi_Dispute):List Cell:=(.v (.int .i64 x.1)) :: ((.v (.int .i64 x.2.1)) :: ((arC .u8 x.2.2.1)++((.slice .no (List.map eapi_Claim x.2.2.2)) :: [])))
instance:EnC ZaF 35:=enC
theorem nfs:(∀ x:Tapi_Claim,eapi_Claim x=(.v (.int .i64 x.1)) :: (arC .u8 x.2))∧(∀ x:Tapi_OutPoint,eapi_OutPoint x=(arC .u8 x.1)++((.v (.int .u32 x.2)) :: []))∧(∀ x:Tapi_Output,Y2 x=[.v (.int .i64 x.1),.slice .no (Zg .u8 x.2)])∧(∀ x:(List Int),Zah x=[.slice .no (Zg .u8 x)])∧(∀ x:Tapi_Input,Zbs x=(arC .u8 x.1.1)++((.v (.int .u32 x.1.2)) :: ((.v (.int .u32 x.2.1)) :: ((.slice .no (List.map Zah x.2.2)) :: []))))∧(∀ x:Tapi_Tx,ZQ x=[.v (.int .u32 x.1),.slice .no (List.map Zbs x.2.1),.slice .no (List.map Y2 x.2.2.1),.v (.int .u32 x.2.2.2)])∧(∀ x:(List (Arr 32)),ZgA x=[.slice .no (List.map (arC .u8) x)])∧(∀ x:Tapi_Coin,Zs x=(arC .u8 x.1.1)++((.v (.int .u32 x.1.2)) :: ((.v (.int .i64 x.2.1.1)) :: ((.slice .no (Zg .u8 x.2.1.2)) :: ((.v (.int .i64 x.2.2.1)) :: ((.v (.bool x.2.2.2)) :: []))))))∧(∀ x:Tapi_Checkpoint,eapi_Checkpoint x=(.v (.int .i64 x.1)) :: (arC .u8 x.2))∧(∀ x:Tapi_Params,YH x=(.v (.int .u32 x.1.1)) :: ((arC .u8 x.1.2.1)++((arC .u8 x.1.2.2.1)++((.v (.int .u32 x.1.2.2.2.1)) :: ((.v (.int .u32 x.1.2.2.2.2.1)) :: ((.v (.int .u32 x.1.2.2.2.2.2)) :: ((arC .u64 x.2.1)++((.v (.int .i64 x.2.2.1)) :: ((.v (.int .u32 x.2.2.2.1)) :: ((.v (.int .u32 x.2.2.2.2.1)) :: ((.v (.int .u32 x.2.2.2.2.2.1)) :: ((.slice .no (List.map eapi_Checkpoint x.2.2.2.2.2.2.1)) :: ((.v (.int .i64 x.2.2.2.2.2.2.2.1)) :: ((.v (.int .i64 x.2.2.2.2.2.2.2.2.1)) :: ((.v (.int .i64 x.2.2.2.2.2.2.2.2.2)) :: [])))))))))))))))∧(∀ x:Tapi_Header,eapi_Header x=(.v (.int .u32 x.1)) :: ((arC .u8 x.2.1)++((arC .u8 x.2.2.1)++((.v (.int .u32 x.2.2.2.1)) :: ((.v (.int .u32 x.2.2.2.2.1)) :: ((.v (.int .u32 x.2.2.2.2.2)) :: []))))))∧(∀ x:Tapi_Context,Yv x=(.v (.int .i64 x.1)) :: ((arC .u8 x.2.1)++((.v (.int .u32 x.2.2.1)) :: ((.v (.int .u32 x.2.2.2.1)) :: ((.slice .no (Zg .u32 x.2.2.2.2)) :: [])))))∧(∀ x:Tapi_Ledger,Y3 x=(.v (.int .i64 x.1)) :: ((arC .u8 x.2.1)++((.slice .no (List.map Zs x.2.2)) :: [])))∧(∀ x:Tapi_Block,Yq x=(.v (.int .u32 x.1.1)) :: ((arC .u8 x.1.2.1)++((arC .u8 x.1.2.2.1)++((.v (.int .u32 x.1.2.2.2.1)) :: ((.v (.int .u32 x.1.2.2.2.2.1)) :: ((.v (.int .u32 x.1.2.2.2.2.2)) :: ((.slice .no (List.map ZQ x.2)) :: [])))))))∧(∀ x:Tapi_Env,eapi_Env x=(arC .u8 x.1)++((.v (.int .i64 x.2.1)) :: ((.v (.int .i64 x.2.2)) :: [])))∧(∀ x:(List Tapi_Coin),Zdm x=[.slice .no (List.map Zs x)])∧(∀ x:Tapi_Bits,ZiM x=[.slice .no (Zg .u8 x.1),.v (.int .i64 x.2)])∧(∀ x:Tapi_Filter,ZeV x=[.v (.int .i64 x.1),.slice .no (Zg .u8 x.2)])∧(∀ x:Tapi_Dispute,ZaF x=(.v (.int .i64 x.1)) :: ((.v (.int .i64 x.2.1)) :: ((arC .u8 x.2.2.1)++((.slice .no (List.map eapi_Claim x.2.2.2)) :: [])))):=⟨fun _=>rfl,fun _=>rfl,fun _=>rfl,fun _=>rfl,fun _=>rfl,fun _=>rfl,fun _=>rfl,fun _=>rfl,fun _=>rfl,fun _=>rfl,fun _=>rfl,fun _=>rfl,fun _=>rfl,fun _=>rfl,fun _=>rfl,fun _=>rfl,fun _=>rfl,fun _=>rfl,fun _=>rfl⟩
@[simp] def Zlv (x:ByteArray×Bool):List Cell:=([.v (.string x.1)])++([.v (.bool x.2)])
theorem eM_Str_B_he:∀ a b:ByteArray,kEq ([.v (.string a)]) ([.v (.string b)])=decide (a=b):=by
  rintro a b
  rw[Bool.eq_iff_iff];simp[kEq,kEq1]
@[simp] theorem ZyT {k0:ByteArray}{l:List (ByteArray×Bool)}:ZgQ 1 ([.v (.string k0)]) (List.map Zlv l)=Option.map (fun v:Bool=>([.v (.bool v)]:List Cell)) (XT k0 l):=ZmK (eK:=(fun k:ByteArray=>([.v (.string k)]:List Cell))) (eV:=(fun v:Bool=>([.v (.bool v)]:List Cell))) (fun k=>by simp) eM_Str_B_he k0 l
@[simp] theorem ZyU {k0:ByteArray}{v0:Bool}{l:List (ByteArray×Bool)}:ZgR 1 ([.v (.string k0)]) ([.v (.bool v0)]) (List.map Zlv l)=List.map Zlv (ZbQ k0 v0 l):=ZmL (eK:=(fun k:ByteArray=>([.v (.string k)]:List Cell))) (eV:=(fun v:Bool=>([.v (.bool v)]:List Cell))) (fun k=>by simp) eM_Str_B_he k0 v0 l
@[simp] theorem Zzj (o:Option Bool):(Option.map (fun v:Bool=>([.v (.bool v)]:List Cell)) o).getD ([.v (.bool false)])=[.v (.bool (o.getD false))]:=by cases o <;> rfl
@[simp] theorem Zyg {k0:ByteArray}{v0:Bool}:ZgR 1 ([.v (.string k0)]) ([.v (.bool v0)]) []=List.map Zlv (ZbQ k0 v0 []):=rfl
@[simp] def Zao (x:Tapi_OutPoint×Bool):List Cell:=((arC .u8 x.1.1)++((.v (.int .u32 x.1.2)) :: []))++([.v (.bool x.2)])
theorem eM_api_OutPoint_B_he:∀ a b:Tapi_OutPoint,kEq ((arC .u8 a.1)++((.v (.int .u32 a.2)) :: [])) ((arC .u8 b.1)++((.v (.int .u32 b.2)) :: []))=decide (a=b):=by
  rintro⟨a_0,a_1⟩ ⟨b_0,b_1⟩
  rw[Bool.eq_iff_iff];simp[kEq,kEq1]
@[simp] theorem ZsY {k0:(Arr 32)}{k1:Int}{l:List (Tapi_OutPoint×Bool)}:ZgQ 33 ((arC .u8 k0)++((.v (.int .u32 k1)) :: [])) (List.map Zao l)=Option.map (fun v:Bool=>([.v (.bool v)]:List Cell)) (XT (k0,k1) l):=ZmK (eK:=(fun k:Tapi_OutPoint=>((arC .u8 k.1)++((.v (.int .u32 k.2)) :: []):List Cell))) (eV:=(fun v:Bool=>([.v (.bool v)]:List Cell))) (fun k=>by simp) eM_api_OutPoint_B_he (k0,k1) l
@[simp] theorem ZsZ {k0:(Arr 32)}{k1:Int}{v0:Bool}{l:List (Tapi_OutPoint×Bool)}:ZgR 33 ((arC .u8 k0)++((.v (.int .u32 k1)) :: [])) ([.v (.bool v0)]) (List.map Zao l)=List.map Zao (ZbQ (k0,k1) v0 l):=ZmL (eK:=(fun k:Tapi_OutPoint=>((arC .u8 k.1)++((.v (.int .u32 k.2)) :: []):List Cell))) (eV:=(fun v:Bool=>([.v (.bool v)]:List Cell))) (fun k=>by simp) eM_api_OutPoint_B_he (k0,k1) v0 l
@[simp] theorem Zub (o:Option Bool):(Option.map (fun v:Bool=>([.v (.bool v)]:List Cell)) o).getD ([.v (.bool false)])=[.v (.bool (o.getD false))]:=by cases o <;> rfl
@[simp] theorem Zsn {k0:(Arr 32)}{k1:Int}{v0:Bool}:ZgR 33 ((arC .u8 k0)++((.v (.int .u32 k1)) :: [])) ([.v (.bool v0)]) []=List.map Zao (ZbQ (k0,k1) v0 []):=rfl
@[simp] def Zc8 (x:(Arr 32)×Int):List Cell:=(arC .u8 x.1)++([.v (.int .i64 x.2)])
theorem eM_A32_I_u8_I_i64_he:∀ a b:(Arr 32),kEq (arC .u8 a) (arC .u8 b)=decide (a=b):=by
  rintro a b
  rw[Bool.eq_iff_iff];simp[kEq,kEq1]
@[simp] theorem Zs0 {k0:(Arr 32)}{l:List ((Arr 32)×Int)}:ZgQ 32 (arC .u8 k0) (List.map Zc8 l)=Option.map (fun v:Int=>([.v (.int .i64 v)]:List Cell)) (XT k0 l):=ZmK (eK:=(fun k:(Arr 32)=>(arC .u8 k:List Cell))) (eV:=(fun v:Int=>([.v (.int .i64 v)]:List Cell))) (fun k=>by simp) eM_A32_I_u8_I_i64_he k0 l
@[simp] theorem Zs1 {k0:(Arr 32)}{v0:Int}{l:List ((Arr 32)×Int)}:ZgR 32 (arC .u8 k0) ([.v (.int .i64 v0)]) (List.map Zc8 l)=List.map Zc8 (ZbQ k0 v0 l):=ZmL (eK:=(fun k:(Arr 32)=>(arC .u8 k:List Cell))) (eV:=(fun v:Int=>([.v (.int .i64 v)]:List Cell))) (fun k=>by simp) eM_A32_I_u8_I_i64_he k0 v0 l
@[simp] theorem Zuc (o:Option Int):(Option.map (fun v:Int=>([.v (.int .i64 v)]:List Cell)) o).getD ([.v (.int .i64 0)])=[.v (.int .i64 (o.getD 0))]:=by cases o <;> rfl
@[simp] theorem Zso {k0:(Arr 32)}{v0:Int}:ZgR 32 (arC .u8 k0) ([.v (.int .i64 v0)]) []=List.map Zc8 (ZbQ k0 v0 []):=rfl
theorem bN {α β:Type}{o:Option α}{f:α→Option β}{y:β}{P P':α→Prop}(h:o.bind f=some y) (k:∀ {x},o=some x→P x) (n:∀ x,P x→P' x:=by intro x h; try simp only[kS,nf,nfs,Z5] at h; exact h):∃ x,P' x∧f x=some y :=
  let ⟨x,h1,h2⟩:=bs h
  ⟨x,n x (k h1),h2⟩
theorem Zd7 {P R:Prop}(k:R) (h:∀ X:Prop,Zbo X R→Imp X P:=by
  intro X e
  repeat (first
    | (with_reducible refine ZfO ?_)
    | (with_reducible refine Zci ?_)
    | (with_reducible refine Zbp ?_)
    | (with_reducible refine Zcj ?_)
    | (with_reducible refine Zdi ?_)
    | (with_reducible refine ZfP ?_)
    | (with_reducible refine Zhy ?_)
    | (with_reducible refine Zhz ?_)
    | (with_reducible refine Zja ?_)
    | (with_reducible refine YL ?_ ?_; · simp[-Int.ofNat_toNat,bV, *]; done)
    | (with_reducible refine YM ?_ ?_; · simp[-Int.ofNat_toNat,bV, *]; done)
    | (refine Zdh rfl (by first | (simp[-Int.ofNat_toNat,Nat.add_assoc,-Int.natCast_tdiv_eq_ediv, *] <;> rfl) | fail) ?_)
    | (refine Zch rfl (by simp[-Int.ofNat_toNat,Nat.add_assoc,-Int.natCast_tdiv_eq_ediv, *]; first | exact⟨rfl,rfl⟩ | rfl) (by kernel_rfl) ?_)
    | (with_reducible refine ZaT ?_ ?_; · simp[-Int.ofNat_toNat,bV, *]; done)
    | (with_reducible refine ZaU ?_ ?_; · simp[-Int.ofNat_toNat,bV, *]; done)
    | (refine Zi9 rfl (by first | (simp[-Int.ofNat_toNat,Nat.add_assoc,-Int.natCast_tdiv_eq_ediv, *] <;> rfl) | fail) ?_)
    | (refine Zhx rfl (by simp[-Int.ofNat_toNat,Nat.add_assoc,-Int.natCast_tdiv_eq_ediv, *]; first | exact⟨rfl,rfl⟩ | rfl) (by kernel_rfl) ?_)
    | (refine ZfQ ?_ (by simp only[pq,reduceCtorEq]; rfl)))
  exact Imp.of e):P:=h R ⟨rfl⟩ k
theorem goR {P R:Prop}(k:R) (h:∀ X:Prop,Zbo X R→Imp X P:=by
  intro X e
  repeat (first
    | (with_reducible refine ZfO ?_)
    | (with_reducible refine Zci ?_)
    | (with_reducible refine Zbp ?_)
    | (with_reducible refine Zcj ?_)
    | (with_reducible refine Zdi ?_)
    | (with_reducible refine ZfP ?_)
    | (with_reducible refine Zhy ?_)
    | (with_reducible refine Zhz ?_)
    | (with_reducible refine Zja ?_)
    | (with_reducible refine YL ?_ ?_; · simp[-Int.ofNat_toNat,bV, *]; done)
    | (with_reducible refine YM ?_ ?_; · simp[-Int.ofNat_toNat,bV, *]; done)
    | (refine Zdh rfl (by first | (simp[-Int.ofNat_toNat,List.range,List.range.loop, *] <;> rfl) | fail) ?_)
    | (refine Zch rfl (by simp[-Int.ofNat_toNat,List.range,List.range.loop, *]; first | exact⟨rfl,rfl⟩ | rfl) (by kernel_rfl) ?_)
    | (with_reducible refine ZaT ?_ ?_; · simp[-Int.ofNat_toNat,bV, *]; done)
    | (with_reducible refine ZaU ?_ ?_; · simp[-Int.ofNat_toNat,bV, *]; done)
    | (refine Zi9 rfl (by first | (simp[-Int.ofNat_toNat,List.range,List.range.loop, *] <;> rfl) | fail) ?_)
    | (refine Zhx rfl (by simp[-Int.ofNat_toNat,List.range,List.range.loop, *]; first | exact⟨rfl,rfl⟩ | rfl) (by kernel_rfl) ?_)
    | (refine ZfQ ?_ (by simp only[pq,reduceCtorEq]; rfl)))
  exact Imp.of e):P:=h R ⟨rfl⟩ k
def G:Glob:=fun g=>if g=0 then some (arC .u32 shaInitial) else if g=1 then some (arC .u32 shaK) else none
@[simp] theorem G_at0:G 0=some (arC .u32 shaInitial):=rfl
@[simp] theorem G_at1:G 1=some (arC .u32 shaK):=rfl
noncomputable abbrev K5:=cn a0 (r1 eB) (fun(_:Unit)=>Llaw22_sane)
noncomputable abbrev K111:=cn (a1 (eI .u64)) (r1 (oL .u8)) Zhm
noncomputable abbrev K112:=cn a0 (r1 (eA .u32)) (fun(_:Unit)=>Lref03_Initial)
noncomputable abbrev K199:=cn (a2 (eI .u32) (eI .i64)) (r1 (eI .u32)) (u2 YT)
noncomputable abbrev K166:=cn (a2 (eI .u32) (eI .i64)) (r1 (eI .u32)) (u2 Y0)
noncomputable abbrev K164:=cn (a1 (eA .u8)) (r1 (eA .u32)) ZcF
noncomputable abbrev K165:=cn a0 (r1 (eA .u32)) (fun(_:Unit)=>Lref03_constants)
def ZhO (x:(Arr 8)×(Arr 64)):List PV:=[.agg (arC .u32 x.1),.agg (arC .u8 x.2)]
theorem E113i:∀ a b,ZhO a=ZhO b→a=b:=by
  rintro⟨a0,a1⟩ ⟨b0,b1⟩ h
  simpa[ZhO,and_assoc] using h
def ZjP (x:(Arr 8)×(Arr 64)) (y:(Arr 8)):PV×List (List Cell):=(.agg (arC .u32 y),[])
noncomputable def G113:=Zab ZhO fun x=>(XI x.1 x.2).map (ZjP x)
theorem Zs2 {a0:(Arr 8)}{a1:(Arr 64)}{y:(Arr 8)}(h:XI a0 a1=some y):G113 (ZhO (a0,a1))=some (ZjP (a0,a1) y):=YD E113i h
def E57 (x:(List Int)):List PV:=[.one (.slice .no (Zg .u8 x))]
theorem E57i:∀ a b,E57 a=E57 b→a=b:=by
  rintro a0 b0 h
  simpa[E57,and_assoc] using h
def R57 (x:(List Int)) (y:(Arr 32)):PV×List (List Cell):=(.agg (arC .u8 y),[])
noncomputable def G57:=Zab E57 fun x=>(Y9 x).map (R57 x)
theorem ZrW {a0:(List Int)}{y:(Arr 32)}(h:Y9 a0=some y):G57 (E57 a0)=some (R57 a0 y):=YD E57i h
noncomputable abbrev K25:=cn (a1 (eL .u8)) (r1 (eA .u8)) ZaI
noncomputable abbrev K114:=cn (a2 (eL .u8) (eL .u8)) (r1 (oL .u8)) (u2 Yg)
noncomputable abbrev K115:=cn (a2 (eI .u64) (eI .i64)) (r1 (oL .u8)) (u2 Yh)
noncomputable abbrev K58:=cn (a2 (eL .u8) (eI .u32)) (r1 (oL .u8)) (u2 Z2)
noncomputable abbrev K59:=cn (a2 (eL .u8) (eA .u8)) (r1 (oL .u8)) (u2 YC)
noncomputable abbrev K147:=cn (a1 (eG eapi_OutPoint)) (r1 (oL .u8)) ZdL
noncomputable abbrev K149:=cn (a2 (eL .u8) (eI .u64)) (r1 (oL .u8)) (u2 YQ)
noncomputable abbrev K148:=cn (a2 (eL .u8) (eL .u8)) (r1 (oL .u8)) (u2 XU)
noncomputable abbrev K212:=cn (a2 (eL .u8) (eI .u64)) (r1 (oL .u8)) (u2 ZbS)
noncomputable abbrev K183:=cn (a1 (eG Y2)) (r1 (oL .u8)) Zew
noncomputable abbrev K139:=cn (a2 (eG ZQ) eB) (r1 (oL .u8)) (u2 ZaG)
noncomputable abbrev K136:=cn (a1 (eG ZQ)) (r1 eB) Zaz
noncomputable abbrev K140:=cn (a1 (eG ZQ)) (r1 (eA .u8)) Zgo
noncomputable abbrev K88:=cn (a1 (eS Zah)) (r1 (oL .u8)) Xt
noncomputable abbrev K213:=cn (a2 (eA .u8) (eA .u8)) (r1 (eA .u8)) (u2 Zgp)
noncomputable abbrev K184:=cn (a1 (eS (arC .u8))) (r1 (oS 1 ZgA)) ZbG
noncomputable abbrev K141:=cn (a1 (eS (arC .u8))) (r1 (eA .u8)) Zdj
noncomputable abbrev K84:=cn (a1 (eS ZQ)) (r1 (eA .u8)) Zcc
noncomputable abbrev K80:=cn (a1 (eG ZQ)) (r1 (eA .u8)) Zfz
noncomputable abbrev K93:=cn (a1 (eI .u8)) (r1 (oL .u8)) Zbc
noncomputable abbrev K189:=cn (a1 (eL .u8)) (r1 (eS Zah)) ZiG
noncomputable abbrev K150:Con (Tapi_Coin×Int) (Tapi_Tx×Int):=cn (a2 (eG Zs) (eI .u8)) (fun _ y=>(.tup [.agg ([.v (.int .u32 y.1.1),.own 35 (List.map Zbs y.1.2.1),.own 2 (List.map Y2 y.1.2.2.1),.v (.int .u32 y.1.2.2.2)]),.one (.v (.int .i64 y.2))],[])) (u2 Zgt)
def E90 (x:Tapi_Params×Tapi_Ledger×Int):List PV:=[.agg ((.v (.int .u32 x.1.1.1)) :: ((arC .u8 x.1.1.2.1)++((arC .u8 x.1.1.2.2.1)++((.v (.int .u32 x.1.1.2.2.2.1)) :: ((.v (.int .u32 x.1.1.2.2.2.2.1)) :: ((.v (.int .u32 x.1.1.2.2.2.2.2)) :: ((arC .u64 x.1.2.1)++((.v (.int .i64 x.1.2.2.1)) :: ((.v (.int .u32 x.1.2.2.2.1)) :: ((.v (.int .u32 x.1.2.2.2.2.1)) :: ((.v (.int .u32 x.1.2.2.2.2.2.1)) :: ((.slice .no (List.map eapi_Checkpoint x.1.2.2.2.2.2.2.1)) :: ((.v (.int .i64 x.1.2.2.2.2.2.2.2.1)) :: ((.v (.int .i64 x.1.2.2.2.2.2.2.2.2.1)) :: ((.v (.int .i64 x.1.2.2.2.2.2.2.2.2.2)) :: []))))))))))))))),.agg ((.v (.int .i64 x.2.1.1)) :: ((arC .u8 x.2.1.2.1)++((.slice .no (List.map Zs x.2.1.2.2)) :: []))),.one (.v (.int .u8 x.2.2))]
theorem E90i:∀ a b,E90 a=E90 b→a=b:=by
  rintro⟨⟨⟨a0_0_0,a0_0_1,a0_0_2,a0_0_3,a0_0_4,a0_0_5⟩,a0_1,a0_2,a0_3,a0_4,a0_5,a0_6,a0_7,a0_8,a0_9⟩,⟨a1_0,a1_1,a1_2⟩,a2⟩ ⟨⟨⟨b0_0_0,b0_0_1,b0_0_2,b0_0_3,b0_0_4,b0_0_5⟩,b0_1,b0_2,b0_3,b0_4,b0_5,b0_6,b0_7,b0_8,b0_9⟩,⟨b1_0,b1_1,b1_2⟩,b2⟩ h
  simpa[E90,and_assoc] using h
def R90 (x:Tapi_Params×Tapi_Ledger×Int) (y:(List Tapi_Tx)×Int):PV×List (List Cell):=(.tup [.one (.own 4 (List.map ZQ y.1)),.one (.v (.int .i64 y.2))],[])
noncomputable def G90:=Zab E90 fun x=>(YN x.1 x.2.1 x.2.2).map (R90 x)
theorem ZvH {a0:Tapi_Params}{a1:Tapi_Ledger}{a2:Int}{y:(List Tapi_Tx)×Int}(h:YN a0 a1 a2=some y):G90 (E90 (a0,a1,a2))=some (R90 (a0,a1,a2) y):=YD E90i h
noncomputable abbrev K151:Con Unit Tapi_OutPoint:=cn a0 (r1 (eG eapi_OutPoint)) (fun(_:Unit)=>Lmade_Null)
noncomputable abbrev K91:Con (Int×Int×(List Int)) Tapi_Tx:=cn (a3 (eI .i64) (eI .i64) (eL .u8)) (fun _ y=>(.agg ([.v (.int .u32 y.1),.own 35 (List.map Zbs y.2.1),.own 2 (List.map Y2 y.2.2.1),.v (.int .u32 y.2.2.2)]),[])) (u3 Zfb)
noncomputable abbrev K162:=cn (a2 (eA .u64) (eI .i64)) (r1 eB) (u2 Zbg)
noncomputable abbrev K108:=cn (a2 (eA .u64) (eI .i64)) (r1 (eA .u64)) (u2 Zbh)
noncomputable abbrev K163:=cn (a1 (eA .u64)) (r1 eB) Zca
noncomputable abbrev K194:=cn (a1 (eI .u64)) (r1 (eA .u64)) Zas
noncomputable abbrev K197:=cn (a1 (eA .u64)) (r1 (eI .i64)) Zcb
def Zkx (x:Int×Int×Int):List PV:=[.one (.v (.int .u64 x.1)),.one (.v (.int .u64 x.2.1)),.one (.v (.int .u64 x.2.2))]
theorem E221i:∀ a b,Zkx a=Zkx b→a=b:=by
  rintro⟨a0,a1,a2⟩ ⟨b0,b1,b2⟩ h
  simpa[Zkx,and_assoc] using h
def ZlZ (x:Int×Int×Int) (y:Int×Int):PV×List (List Cell):=(.tup [.one (.v (.int .u64 y.1)),.one (.v (.int .u64 y.2))],[])
noncomputable def G221:=Zab Zkx fun x=>(Xl x.1 x.2.1 x.2.2).map (ZlZ x)
theorem Zx6 {a0:Int}{a1:Int}{a2:Int}{y:Int×Int}(h:Xl a0 a1 a2=some y):G221 (Zkx (a0,a1,a2))=some (ZlZ (a0,a1,a2) y):=YD E221i h
noncomputable abbrev K222:Con ((Arr 4)×(Arr 4)) ((Arr 4)×Bool):=cn (a2 (eA .u64) (eA .u64)) (r2 (eA .u64) eB) (u2 ZfK)
noncomputable abbrev K198:=cn (a2 (eA .u64) (eI .i64)) (r1 (eA .u64)) (u2 ZfL)
noncomputable abbrev K159:Con Int ((Arr 4)×Int):=cn (a1 (eI .u32)) (r2 (eA .u64) (eI .i64)) ZbF
noncomputable abbrev K160:=cn (a2 (eA .u64) (eA .u64)) (r1 (eI .i64)) (u2 Xk)
noncomputable abbrev K110:=cn (a1 (eG YH)) (r1 eB) Xp
noncomputable abbrev K92:=cn (a2 (eG YH) (eI .i64)) (r1 (eI .i64)) (u2 Zb1)
noncomputable abbrev K26:=cn (a1 (eG eapi_Header)) (r1 (oL .u8)) XB
noncomputable abbrev K9:=cn (a1 (eG eapi_Header)) (r1 (eA .u8)) ZaB
noncomputable abbrev K173:Con (Int×Int) (Int×Int):=cn (a2 (eI .u64) (eI .u64)) (r2 (eI .u64) (eI .u64)) (u2 XZ)
noncomputable abbrev K193:Con ((Arr 4)×(Arr 4)) ((Arr 4)×(Arr 4)):=cn (a2 (eA .u64) (eA .u64)) (r2 (eA .u64) (eA .u64)) (u2 Zhs)
def Zky (x:Int×Int×Int):List PV:=[.one (.v (.int .u64 x.1)),.one (.v (.int .u64 x.2.1)),.one (.v (.int .u64 x.2.2))]
theorem E238i:∀ a b,Zky a=Zky b→a=b:=by
  rintro⟨a0,a1,a2⟩ ⟨b0,b1,b2⟩ h
  simpa[Zky,and_assoc] using h
def Zl0 (x:Int×Int×Int) (y:Int×Int):PV×List (List Cell):=(.tup [.one (.v (.int .u64 y.1)),.one (.v (.int .u64 y.2))],[])
noncomputable def G238:=Zab Zky fun x=>(ZaR x.1 x.2.1 x.2.2).map (Zl0 x)
theorem Zx7 {a0:Int}{a1:Int}{a2:Int}{y:Int×Int}(h:ZaR a0 a1 a2=some y):G238 (Zky (a0,a1,a2))=some (Zl0 (a0,a1,a2) y):=YD E238i h
noncomputable abbrev K223:Con ((Arr 4)×(Arr 4)) ((Arr 4)×Bool):=cn (a2 (eA .u64) (eA .u64)) (r2 (eA .u64) eB) (u2 Zhp)
noncomputable abbrev K195:Con ((Arr 4)×(Arr 4)×(Arr 4)) ((Arr 4)×(Arr 4)×Bool):=cn (a3 (eA .u64) (eA .u64) (eA .u64)) (r3 (eA .u64) (eA .u64) eB) (u3 Zht)
noncomputable abbrev K196:=cn (a1 (eA .u64)) (r1 (eI .u32)) Zdz
noncomputable abbrev K158:Con (Tapi_Params×Int×Int×Int) (Int×Int):=cn (a4 (eG YH) (eI .u32) (eI .u32) (eI .u32)) (r2 (eI .u32) (eI .i64)) (u4 Zep)
noncomputable abbrev K104:Con (Tapi_Params×Tapi_Context) (Int×Int):=cn (a2 (eG YH) (eG Yv)) (r2 (eI .u32) (eI .i64)) (u2 Zd4)
noncomputable abbrev K161:=cn (a1 (eA .u8)) (r1 (eA .u64)) ZaS
noncomputable abbrev K105:=cn (a2 (eA .u8) (eI .u32)) (r1 eB) (u2 ZdV)
noncomputable abbrev K106:=cn (a1 (eL .u32)) (r1 (eI .u32)) ZcX
noncomputable abbrev K94:Con (Tapi_Params×Tapi_Context×(Arr 32)×Int) Tapi_Header:=cn (a4 (eG YH) (eG Yv) (eA .u8) (eI .u32)) (r1 (eG eapi_Header)) (u4 Zgu)
noncomputable abbrev K95:=cn (a1 (eI .u8)) (r1 (eI .u32)) Zf7
noncomputable abbrev K50:Con (Tapi_Params×Tapi_Ledger×Tapi_Context×Int) Tapi_Block:=cn (a4 (eG YH) (eG Y3) (eG Yv) (eI .u8)) (fun _ y=>(.agg ((.v (.int .u32 y.1.1)) :: ((arC .u8 y.1.2.1)++((arC .u8 y.1.2.2.1)++((.v (.int .u32 y.1.2.2.2.1)) :: ((.v (.int .u32 y.1.2.2.2.2.1)) :: ((.v (.int .u32 y.1.2.2.2.2.2)) :: ((.own 4 (List.map ZQ y.2)) :: []))))))),[])) (u4 Zfk)
noncomputable abbrev K182:Con (Tapi_Tx×Bool) ((List Int)×Int):=cn (a2 (eG ZQ) eB) (r2 (eL .u8) (eI .i64)) (u2 Zem)
noncomputable abbrev K137:=cn (a1 (eG Yq)) (r1 (oL .u8)) Zen
noncomputable abbrev K77:=cn (a1 (eG Yq)) (r1 eB) Zgq
noncomputable abbrev K138:=cn (a1 (eG eapi_OutPoint)) (r1 eB) ZeM
noncomputable abbrev K78:=cn (a1 (eG ZQ)) (r1 eB) Zaq
noncomputable abbrev K79:=cn (a1 (eG ZQ)) (r1 (eI .i64)) ZdO
noncomputable abbrev K81:=cn (a2 (eS (arC .u8)) (eA .u8)) (r1 (eI .i64)) (u2 Zbj)
noncomputable abbrev K82:=cn (a2 (eG Yq) (eS (arC .u8))) (r1 eB) (u2 ZaZ)
noncomputable abbrev K83:=cn (a1 (eG Yq)) (r1 eB) Zct
noncomputable abbrev K39:=cn (a1 (eG Yq)) (r1 (eI .i64)) ZaC
def ZhP (x:Tapi_OutPoint×Tapi_OutPoint):List PV:=[.agg ((arC .u8 x.1.1)++((.v (.int .u32 x.1.2)) :: [])),.agg ((arC .u8 x.2.1)++((.v (.int .u32 x.2.2)) :: []))]
theorem E190i:∀ a b,ZhP a=ZhP b→a=b:=by
  rintro⟨⟨a0_0,a0_1⟩,⟨a1_0,a1_1⟩⟩ ⟨⟨b0_0,b0_1⟩,⟨b1_0,b1_1⟩⟩ h
  simpa[ZhP,and_assoc] using h
def ZjQ (x:Tapi_OutPoint×Tapi_OutPoint) (y:Int):PV×List (List Cell):=(.one (.v (.int .i64 y)),[])
noncomputable def G190:=Zab ZhP fun x=>(Xc x.1 x.2).map (ZjQ x)
theorem Zs3 {a0:Tapi_OutPoint}{a1:Tapi_OutPoint}{y:Int}(h:Xc a0 a1=some y):G190 (ZhP (a0,a1))=some (ZjQ (a0,a1) y):=YD E190i h
noncomputable abbrev K152:=cn (a1 (eG Y3)) (r1 eB) ZdZ
def ZhQ (x:Tapi_Tx×Int):List PV:=[.agg ([.v (.int .u32 x.1.1),.slice .no (List.map Zbs x.1.2.1),.slice .no (List.map Y2 x.1.2.2.1),.v (.int .u32 x.1.2.2.2)]),.one (.v (.int .i64 x.2))]
theorem E153i:∀ a b,ZhQ a=ZhQ b→a=b:=by
  rintro⟨⟨a0_0,a0_1,a0_2,a0_3⟩,a1⟩ ⟨⟨b0_0,b0_1,b0_2,b0_3⟩,b1⟩ h
  simpa[ZhQ,and_assoc] using h
def ZjR (x:Tapi_Tx×Int) (y:Bool):PV×List (List Cell):=(.one (.v (.bool y)),[])
noncomputable def G153:=Zab ZhQ fun x=>(ZaD x.1 x.2).map (ZjR x)
theorem Zs4 {a0:Tapi_Tx}{a1:Int}{y:Bool}(h:ZaD a0 a1=some y):G153 (ZhQ (a0,a1))=some (ZjR (a0,a1) y):=YD E153i h
noncomputable abbrev K96:=cn (a3 (eG YH) (eG Y3) (eG Yq)) (r1 (eI .i64)) (u3 Zfe)
noncomputable abbrev K100:=cn (a2 (eS Zs) (eG eapi_OutPoint)) (r1 (eI .i64)) (u2 Zdk)
noncomputable abbrev K154:Con Tapi_Coin Tapi_Coin:=cn (a1 (eG Zs)) (fun _ y=>(.agg ((arC .u8 y.1.1)++((.v (.int .u32 y.1.2)) :: ((.v (.int .i64 y.2.1.1)) :: ((.own 1 (Zg .u8 y.2.1.2)) :: ((.v (.int .i64 y.2.2.1)) :: ((.v (.bool y.2.2.2)) :: [])))))),[])) Zbm
noncomputable abbrev K97:Con (Tapi_Params×(List Tapi_Coin)×Tapi_Tx×Int) ((List Tapi_Coin)×Int):=cn (a4 (eG YH) (eS Zs) (eG ZQ) (eI .i64)) (r2 (eS Zs) (eI .i64)) (u4 Zff)
noncomputable abbrev K155:Con (Tapi_Tx×(List Tapi_Coin)) (Int×Int):=cn (a2 (eG ZQ) (eS Zs)) (r2 (eI .i64) (eI .i64)) (u2 Zhl)
def ZiA (x:ByteArray×(List Int)):List PV:=[.one (.v (.string x.1)),.one (.slice .no (Zg .u8 x.2))]
theorem E218i:∀ a b,ZiA a=ZiA b→a=b:=by
  rintro⟨a0,a1⟩ ⟨b0,b1⟩ h
  simpa[ZiA,and_assoc] using h
def Zkz (x:ByteArray×(List Int)) (y:(Arr 32)):PV×List (List Cell):=(.agg (arC .u8 y),[])
noncomputable def G218:=Zab ZiA fun x=>(ZaJ x.1 x.2).map (Zkz x)
theorem Zx8 {a0:ByteArray}{a1:(List Int)}{y:(Arr 32)}(h:ZaJ a0 a1=some y):G218 (ZiA (a0,a1))=some (Zkz (a0,a1) y):=YD E218i h
noncomputable abbrev K191:Con (Tapi_Tx×Int×Tapi_Output) ((Arr 32)×Int):=cn (a3 (eG ZQ) (eI .i64) (eG Y2)) (r2 (eA .u8) (eI .i64)) (u3 ZdA)
noncomputable abbrev K192:=cn (a3 (eL .u8) (eS Zah) (eG eapi_Env)) (r1 (eI .i64)) (u3 Za1)
noncomputable abbrev K156:=cn (a4 (eG ZQ) (eI .i64) (eG Zs) (eI .i64)) (r1 (eI .i64)) (u4 Zfl)
noncomputable abbrev K98:Con (Tapi_Tx×(List Tapi_Coin)×Int) (Int×Int):=cn (a3 (eG ZQ) (eS Zs) (eI .i64)) (r2 (eI .i64) (eI .i64)) (u3 Zfm)
noncomputable abbrev K99:=cn (a2 (eS Zs) (eI .i64)) (r1 (eS Zs)) (u2 Zdw)
noncomputable abbrev K103:=cn (a2 (eG ZQ) (eI .i64)) (r1 (oS 37 Zs)) (u2 Za0)
def ZiB (x:(List Tapi_Coin)×Tapi_Coin):List PV:=[.one (.slice .no (List.map Zs x.1)),.agg ((arC .u8 x.2.1.1)++((.v (.int .u32 x.2.1.2)) :: ((.v (.int .i64 x.2.2.1.1)) :: ((.slice .no (Zg .u8 x.2.2.1.2)) :: ((.v (.int .i64 x.2.2.2.1)) :: ((.v (.bool x.2.2.2.2)) :: []))))))]
theorem E157i:∀ a b,ZiB a=ZiB b→a=b:=by
  rintro⟨a0,⟨⟨a1_0_0,a1_0_1⟩,⟨a1_1_0,a1_1_1⟩,a1_2,a1_3⟩⟩ ⟨b0,⟨⟨b1_0_0,b1_0_1⟩,⟨b1_1_0,b1_1_1⟩,b1_2,b1_3⟩⟩ h
  simpa[ZiB,and_assoc] using h
def ZkA (x:(List Tapi_Coin)×Tapi_Coin) (y:(List Tapi_Coin)):PV×List (List Cell):=(.one (.slice .no (List.map Zs y)),[])
noncomputable def G157:=Zab ZiB fun x=>(Zcd x.1 x.2).map (ZkA x)
theorem Zx9 {a0:(List Tapi_Coin)}{a1:Tapi_Coin}{y:(List Tapi_Coin)}(h:Zcd a0 a1=some y):G157 (ZiB (a0,a1))=some (ZkA (a0,a1) y):=YD E157i h
noncomputable abbrev K101:Con ((List Tapi_Coin)×Tapi_Tx×Int) ((List Tapi_Coin)×Int):=cn (a3 (eS Zs) (eG ZQ) (eI .i64)) (r2 (eS Zs) (eI .i64)) (u3 Zhr)
noncomputable abbrev K102:=cn (a1 (eS Zs)) (r1 (eI .i64)) Zd0
noncomputable abbrev K51:Con (Tapi_Params×Tapi_Ledger×Tapi_Block) (Tapi_Ledger×(List Tapi_Coin)×Int):=cn (a3 (eG YH) (eG Y3) (eG Yq)) (r3 (eG Y3) (eG Zdm) (eI .i64)) (u3 ZcK)
noncomputable abbrev K107:=cn (a2 (eG YH) (eG Yv)) (r1 eB) (u2 Zgr)
noncomputable abbrev K53:Con (Tapi_Params×Tapi_Context×Tapi_Header) (Tapi_Context×Int):=cn (a3 (eG YH) (eG Yv) (eG eapi_Header)) (r2 (eG Yv) (eI .i64)) (u3 Zb3)
noncomputable abbrev K52:=cn (a4 (eG YH) (eG Yv) (eG eapi_Header) (eI .u32)) (r1 (eI .i64)) (u4 ZcY)
noncomputable abbrev K109:=cn (a1 (eA .u64)) (r1 (eA .u64)) Zi0
noncomputable abbrev K54:Con Int Tapi_Params:=cn (a1 (eI .u8)) (r1 (eG YH)) Zfg
noncomputable abbrev K55:Con Tapi_Params (Tapi_Ledger×Int):=cn (a1 (eG YH)) (r2 (eG Y3) (eI .i64)) Zfh
noncomputable abbrev K56:Con Tapi_Params (Tapi_Context×Int):=cn (a1 (eG YH)) (r2 (eG Yv) (eI .i64)) Zfi
noncomputable abbrev K24:Con Int Tlightclientmade_World:=cn (a1 (eI .u8)) (fun _ y=>(.agg ((.v (.int .u32 y.1.1.1)) :: ((arC .u8 y.1.1.2.1)++((arC .u8 y.1.1.2.2.1)++((.v (.int .u32 y.1.1.2.2.2.1)) :: ((.v (.int .u32 y.1.1.2.2.2.2.1)) :: ((.v (.int .u32 y.1.1.2.2.2.2.2)) :: ((arC .u64 y.1.2.1)++((.v (.int .i64 y.1.2.2.1)) :: ((.v (.int .u32 y.1.2.2.2.1)) :: ((.v (.int .u32 y.1.2.2.2.2.1)) :: ((.v (.int .u32 y.1.2.2.2.2.2.1)) :: ((.slice .no (List.map eapi_Checkpoint y.1.2.2.2.2.2.2.1)) :: ((.v (.int .i64 y.1.2.2.2.2.2.2.2.1)) :: ((.v (.int .i64 y.1.2.2.2.2.2.2.2.2.1)) :: ((.v (.int .i64 y.1.2.2.2.2.2.2.2.2.2)) :: ((.slice .no (List.map Yq y.2.1)) :: ((.own 34 (List.map Y3 y.2.2.1)) :: ((.own 36 (List.map Yv y.2.2.2.1)) :: ((.slice .no (List.map Zdm y.2.2.2.2)) :: []))))))))))))))))))),[])) Zgs
def E23_1 (x:Tlightclientmade_World×(List Int)):List PV:=[.agg ((.v (.int .u32 x.1.1.1.1)) :: ((arC .u8 x.1.1.1.2.1)++((arC .u8 x.1.1.1.2.2.1)++((.v (.int .u32 x.1.1.1.2.2.2.1)) :: ((.v (.int .u32 x.1.1.1.2.2.2.2.1)) :: ((.v (.int .u32 x.1.1.1.2.2.2.2.2)) :: ((arC .u64 x.1.1.2.1)++((.v (.int .i64 x.1.1.2.2.1)) :: ((.v (.int .u32 x.1.1.2.2.2.1)) :: ((.v (.int .u32 x.1.1.2.2.2.2.1)) :: ((.v (.int .u32 x.1.1.2.2.2.2.2.1)) :: ((.slice .no (List.map eapi_Checkpoint x.1.1.2.2.2.2.2.2.1)) :: ((.v (.int .i64 x.1.1.2.2.2.2.2.2.2.1)) :: ((.v (.int .i64 x.1.1.2.2.2.2.2.2.2.2.1)) :: ((.v (.int .i64 x.1.1.2.2.2.2.2.2.2.2.2)) :: ((.slice .no (List.map Yq x.1.2.1)) :: ((.own 34 (List.map Y3 x.1.2.2.1)) :: ((.own 36 (List.map Yv x.1.2.2.2.1)) :: ((.slice .no (List.map Zdm x.1.2.2.2.2)) :: []))))))))))))))))))),.one (.slice .no (Zg .u8 x.2))]
instance:YI E23_1:=⟨by intro a b h; simpa[E23_1,Prod.ext_iff,and_assoc] using h⟩
noncomputable abbrev K23_1:Con (Tlightclientmade_World×(List Int)) Tlightclientmade_World:=cn E23_1 (fun _ y=>(.agg ((.v (.int .u32 y.1.1.1)) :: ((arC .u8 y.1.1.2.1)++((arC .u8 y.1.1.2.2.1)++((.v (.int .u32 y.1.1.2.2.2.1)) :: ((.v (.int .u32 y.1.1.2.2.2.2.1)) :: ((.v (.int .u32 y.1.1.2.2.2.2.2)) :: ((arC .u64 y.1.2.1)++((.v (.int .i64 y.1.2.2.1)) :: ((.v (.int .u32 y.1.2.2.2.1)) :: ((.v (.int .u32 y.1.2.2.2.2.1)) :: ((.v (.int .u32 y.1.2.2.2.2.2.1)) :: ((.slice .no (List.map eapi_Checkpoint y.1.2.2.2.2.2.2.1)) :: ((.v (.int .i64 y.1.2.2.2.2.2.2.2.1)) :: ((.v (.int .i64 y.1.2.2.2.2.2.2.2.2.1)) :: ((.v (.int .i64 y.1.2.2.2.2.2.2.2.2.2)) :: ((.own 69 (List.map Yq y.2.1)) :: ((.own 34 (List.map Y3 y.2.2.1)) :: ((.own 36 (List.map Yv y.2.2.2.1)) :: ((.own 1 (List.map Zdm y.2.2.2.2)) :: []))))))))))))))))))),[])) (u2 Zgv)
noncomputable abbrev K6:Con (Int×(List Int)) Tlightclientmade_World:=cn (a2 (eI .u8) (eL .u8)) (fun _ y=>(.agg ((.v (.int .u32 y.1.1.1)) :: ((arC .u8 y.1.1.2.1)++((arC .u8 y.1.1.2.2.1)++((.v (.int .u32 y.1.1.2.2.2.1)) :: ((.v (.int .u32 y.1.1.2.2.2.2.1)) :: ((.v (.int .u32 y.1.1.2.2.2.2.2)) :: ((arC .u64 y.1.2.1)++((.v (.int .i64 y.1.2.2.1)) :: ((.v (.int .u32 y.1.2.2.2.1)) :: ((.v (.int .u32 y.1.2.2.2.2.1)) :: ((.v (.int .u32 y.1.2.2.2.2.2.1)) :: ((.slice .no (List.map eapi_Checkpoint y.1.2.2.2.2.2.2.1)) :: ((.v (.int .i64 y.1.2.2.2.2.2.2.2.1)) :: ((.v (.int .i64 y.1.2.2.2.2.2.2.2.2.1)) :: ((.v (.int .i64 y.1.2.2.2.2.2.2.2.2.2)) :: ((.own 69 (List.map Yq y.2.1)) :: ((.own 34 (List.map Y3 y.2.2.1)) :: ((.own 36 (List.map Yv y.2.2.2.1)) :: ((.own 1 (List.map Zdm y.2.2.2.2)) :: []))))))))))))))))))),[])) (u2 Zfn)
noncomputable abbrev K7:=cn (a2 (eL .u8) (eI .i64)) (r1 (eL .u8)) (u2 Zhu)
noncomputable abbrev K116:=cn (a2 (eL .u8) (eL .u8)) (r1 (oL .u8)) (u2 YJ)
noncomputable abbrev K167:=cn (a2 (eI .u64) (eI .i64)) (r1 (oL .u8)) (u2 Xo)
noncomputable abbrev K117:=cn (a2 (eL .u8) (eI .u16)) (r1 (oL .u8)) (u2 ZbR)
noncomputable abbrev K118:=cn (a2 (eL .u8) (eI .u32)) (r1 (oL .u8)) (u2 Z9)
noncomputable abbrev K119:=cn (a2 (eL .u8) (eI .u64)) (r1 (oL .u8)) (u2 ZaL)
noncomputable abbrev K60:=cn (a2 (eL .u8) (eI .u64)) (r1 (oL .u8)) (u2 YB)
noncomputable abbrev K120:=cn (a2 (eL .u8) (eA .u8)) (r1 (oL .u8)) (u2 Xv)
noncomputable abbrev K61:=cn (a1 (eG eapi_Header)) (r1 (oL .u8)) XA
noncomputable abbrev K68:=cn (a1 (eG eapi_OutPoint)) (r1 (oL .u8)) Zfy
noncomputable abbrev K71:=cn (a2 (eL .u8) (eL .u8)) (r1 (oL .u8)) (u2 Xf)
noncomputable abbrev K122:=cn (a2 (eG ZQ) eB) (r1 (oL .u8)) (u2 ZfG)
noncomputable abbrev K121:=cn (a1 (eG ZQ)) (r1 eB) Zil
noncomputable abbrev K62:Con (Tapi_Tx×Bool) ((List Int)×Int):=cn (a2 (eG ZQ) eB) (r2 (eL .u8) (eI .i64)) (u2 Zdf)
noncomputable abbrev K27:Con Tapi_Block ((List Int)×Int):=cn (a1 (eG Yq)) (r2 (eL .u8) (eI .i64)) ZcW
noncomputable abbrev K63:=cn (a1 (eL .u8)) (r1 (eI .u64)) Zcs
noncomputable abbrev K28:=cn (a1 (eA .u8)) (r1 (eA .u64)) Zjt
noncomputable abbrev K129:=cn (a1 (eS Zah)) (r1 (oL .u8)) Zjq
noncomputable abbrev K130:=cn (a1 (eI .u64)) (r1 (oL .u8)) Zjr
noncomputable abbrev K179:=cn (a2 (eI .u32) (eI .i64)) (r1 (eI .u32)) (u2 XX)
noncomputable abbrev K178:=cn (a1 (eA .u8)) (r1 (eA .u32)) Zeh
noncomputable abbrev K131:=cn (a2 (eA .u32) (eA .u8)) (r1 (eA .u32)) (u2 Zei)
noncomputable abbrev K69:=cn (a1 (eL .u8)) (r1 (eA .u8)) ZgX
noncomputable abbrev K32:=cn (a1 (eL .u8)) (r1 (eA .u8)) Zb9
noncomputable abbrev K29:=cn (a1 (eG eapi_Header)) (r1 (eA .u8)) ZeO
noncomputable abbrev K200:=cn (a1 (eI .u64)) (r1 eB) Zad
noncomputable abbrev K168:=cn (a2 (eI .u64) (eI .u64)) (r1 eB) (u2 Y6)
noncomputable abbrev K123:=cn (a1 (eL .u64)) (r1 eB) Yc
noncomputable abbrev K169:=cn (a1 (eG ZiM)) (r1 eB) Zgl
noncomputable abbrev K170:Con Tapi_Bits Tapi_Bits:=cn (a1 (eG ZiM)) (fun _ y=>(.io ([.own 1 (Zg .u8 y.1),.v (.int .i64 y.2)]),[])) Zgm
def E171_2 (x:Tapi_Bits×Bool):List PV:=[.io ([.own 1 (Zg .u8 x.1.1),.v (.int .i64 x.1.2)]),.one (.v (.bool x.2))]
instance:YI E171_2:=⟨by intro a b h; simpa[E171_2,Prod.ext_iff,and_assoc] using h⟩
noncomputable abbrev K171_2:Con (Tapi_Bits×Bool) Tapi_Bits:=cn E171_2 (fun _ y=>(.tup [],[[.own 1 (Zg .u8 y.1),.v (.int .i64 y.2)]])) (u2 XY)
def E172_3 (x:Tapi_Bits×Int×Int):List PV:=[.io ([.own 1 (Zg .u8 x.1.1),.v (.int .i64 x.1.2)]),.one (.v (.int .u64 x.2.1)),.one (.v (.int .i64 x.2.2))]
instance:YI E172_3:=⟨by intro a b h; simpa[E172_3,Prod.ext_iff,and_assoc] using h⟩
noncomputable abbrev K172_3:Con (Tapi_Bits×Int×Int) Tapi_Bits:=cn E172_3 (fun _ y=>(.tup [],[[.own 1 (Zg .u8 y.1),.v (.int .i64 y.2)]])) (u3 Zaw)
noncomputable abbrev K124:Con (Tapi_Bits×Int×Int) (Tapi_Bits×Int):=cn (a3 (eG ZiM) (eI .u64) (eI .i64)) (r2 (eG ZiM) (eI .i64)) (u3 ZaQ)
noncomputable abbrev K64:Con ((List Int)×Int) (Tapi_Filter×Int):=cn (a2 (eL .u64) (eI .i64)) (r2 (eG ZeV) (eI .i64)) (u2 ZbY)
noncomputable abbrev K125:=cn (a2 (eI .u64) (eI .u64)) (r1 (eI .u64)) (u2 ZiV)
noncomputable abbrev K201:=cn (a2 (eI .u64) (eI .i64)) (r1 (eI .u64)) (u2 ZY)
noncomputable abbrev K175:=cn (a2 (eA .u64) (eI .i64)) (r1 (eA .u64)) (u2 Zgn)
noncomputable abbrev K174:=cn (a2 (eA .u64) (eI .u64)) (r1 (eA .u64)) (u2 ZeN)
noncomputable abbrev K126:=cn (a2 (eA .u64) (eL .u8)) (r1 (eI .u64)) (u2 Zjs)
def E49 (x:Int):List PV:=[.one (.v (.int .u64 x))]
theorem E49i:∀ a b,E49 a=E49 b→a=b:=by
  rintro a0 b0 h
  simpa[E49,and_assoc] using h
def R49 (x:Int) (y:Int):PV×List (List Cell):=(.one (.v (.int .i64 y)),[])
noncomputable def G49:=Zab E49 fun x=>(Yz x).map (R49 x)
theorem ZyV {a0:Int}{y:Int}(h:Yz a0=some y):G49 (E49 a0)=some (R49 a0 y):=YD E49i h
def E210 (x:Int):List PV:=[.one (.v (.int .u32 x))]
def R210 (x:Int) (y:Int):PV×List (List Cell):=(.one (.v (.int .i64 y)),[])
noncomputable def G210:=Zab E210 fun x=>(Zlg x).map (R210 x)
noncomputable abbrev K177:=cn (a1 (eI .u64)) (r1 (eI .i64)) Zds
def Zc9 (x:(List Int)×Int×Int):List PV:=[.rio 1 (Zg .u64 x.1),.one (.v (.int .i64 x.2.1)),.one (.v (.int .i64 x.2.2))]
theorem E202_4i:∀ a b,Zc9 a=Zc9 b→a=b:=by
  rintro⟨a0,a1,a2⟩ ⟨b0,b1,b2⟩ h
  simpa[Zc9,and_assoc] using h
def Zfw (x:(List Int)×Int×Int) (y:(List Int)):PV×List (List Cell):=(.tup [],[(Zg .u64 y).flatten])
noncomputable def G202_4:=Zab Zc9 fun x=>(Zy x.1 x.2.1 x.2.2).map (Zfw x)
theorem Zqw {a0:(List Int)}{a1:Int}{a2:Int}{y:(List Int)}(h:Zy a0 a1 a2=some y):G202_4 (Zc9 (a0,a1,a2))=some (Zfw (a0,a1,a2) y):=YD E202_4i h
def Zda (x:(List Int)×Int×Int×Int):List PV:=[.rio 1 (Zg .u64 x.1),.one (.v (.int .i64 x.2.1)),.one (.v (.int .i64 x.2.2.1)),.one (.v (.int .i64 x.2.2.2))]
theorem E176_5i:∀ a b,Zda a=Zda b→a=b:=by
  rintro⟨a0,a1,a2,a3⟩ ⟨b0,b1,b2,b3⟩ h
  simpa[Zda,and_assoc] using h
def Zfx (x:(List Int)×Int×Int×Int) (y:(List Int)):PV×List (List Cell):=(.tup [],[(Zg .u64 y).flatten])
noncomputable def G176_5:=Zab Zda fun x=>(YF x.1 x.2.1 x.2.2.1 x.2.2.2).map (Zfx x)
theorem ZvI {a0:(List Int)}{a1:Int}{a2:Int}{a3:Int}{y:(List Int)}(h:YF a0 a1 a2 a3=some y):G176_5 (Zda (a0,a1,a2,a3))=some (Zfx (a0,a1,a2,a3) y):=YD E176_5i h
noncomputable def ZpN (n:Nat):=Zab Zda fun x=>(Lslices_pdqsortOrdered_of_uint64w_n n x.1 x.2.1 x.2.2.1 x.2.2.2).map (Zfx x)
noncomputable abbrev K127_6:=cn (a1 (oR .u64)) (rio (lR .u64)) Ys
noncomputable abbrev K65:=cn (a4 (eA .u64) (eS Zah) (eI .i64) (eI .u64)) (r1 (oL .u64)) (u4 ZcJ)
noncomputable abbrev K30:Con ((Arr 2)×(List (List Int))×Int×Int) (Tapi_Filter×Int):=cn (a4 (eA .u64) (eS Zah) (eI .i64) (eI .u64)) (r2 (eG ZeV) (eI .i64)) (u4 Zdy)
def E66 (x:(List Int)):List PV:=[.one (.slice .no (Zg .u8 x))]
theorem E66i:∀ a b,E66 a=E66 b→a=b:=by
  rintro a0 b0 h
  simpa[E66,and_assoc] using h
def R66 (x:(List Int)) (y:(List Int)):PV×List (List Cell):=(.one (.own 1 (Zg .u8 y)),[])
noncomputable def G66:=Zab E66 fun x=>(Yy x).map (R66 x)
theorem ZyW {a0:(List Int)}{y:(List Int)}(h:Yy a0=some y):G66 (E66 a0)=some (R66 a0 y):=YD E66i h
noncomputable abbrev K128:=cn (a1 (eG eapi_OutPoint)) (r1 eB) Zlf
noncomputable abbrev K67:=cn (a1 (eG ZQ)) (r1 eB) Zcp
noncomputable abbrev K31:=cn (a1 (eG Yq)) (r1 (oS 1 Zah)) ZbZ
noncomputable abbrev K10:Con Tapi_Block (Tapi_Filter×Int):=cn (a1 (eG Yq)) (r2 (eG ZeV) (eI .i64)) Zce
noncomputable abbrev K34:Con Tapi_Filter ((List Int)×Int):=cn (a1 (eG ZeV)) (r2 (eL .u8) (eI .i64)) Zdu
noncomputable abbrev K12:=cn (a1 (eG ZeV)) (r1 (eA .u8)) ZdT
def G70:List PV→Option (PV×List (List Cell))
  | [.one (.slice .nil []),.one (.v (.int .i64 n))]=>if 0≤n∧n≤70368744177664 then some (.one (.own 1 []),[]) else none
  | _=>none
theorem ZyX {n:Int}(h:0≤n∧n≤70368744177664):G70 [.one (.slice .nil []),.one (.v (.int .i64 n))]=some (.one (.own 1 []),[]):=by
  simp[G70,h]
def E33 (x:(List (List Int))):List PV:=[.one (.slice .no (List.map Zah x))]
theorem E33i:∀ a b,E33 a=E33 b→a=b:=by
  rintro a0 b0 h
  simpa[E33,and_assoc] using h
def R33 (x:(List (List Int))) (y:(List Int)):PV×List (List Cell):=(.one (.own 1 (Zg .u8 y)),[])
noncomputable def G33:=Zab E33 fun x=>(ZX x).map (R33 x)
theorem ZyY {a0:(List (List Int))}{y:(List Int)}(h:ZX a0=some y):G33 (E33 a0)=some (R33 a0 y):=YD E33i h
noncomputable abbrev K11:=cn (a2 (eA .u8) (eA .u8)) (r1 (eA .u8)) (u2 Zdt)
noncomputable abbrev K45:=cn (a1 (eS eapi_Claim)) (r1 eB) YW
noncomputable abbrev K46:=cn (a2 (eI .i64) (eI .i64)) (r1 eB) (u2 Xm)
noncomputable abbrev K35:=cn (a1 (eG ZaF)) (r1 eB) YU
noncomputable abbrev K132:=cn (a1 (eS Y2)) (r1 eB) ZiF
noncomputable abbrev K72:=cn (a1 (eG ZQ)) (r1 (eI .i64)) ZgW
noncomputable abbrev K180:=cn (a2 (eG ZQ) eB) (r1 (eA .u8)) (u2 ZfI)
noncomputable abbrev K133:=cn (a1 (eG ZQ)) (r1 (eA .u8)) Zl6
noncomputable abbrev K73:=cn (a1 (eS ZQ)) (r1 (eI .i64)) Zfo
noncomputable abbrev K134:=cn (a1 (eG ZQ)) (r1 (eA .u8)) Zjz
noncomputable abbrev K211:=cn (a2 (eA .u8) (eA .u8)) (r1 (eA .u8)) (u2 Zfp)
noncomputable abbrev K181:=cn (a1 (eS (arC .u8))) (r1 (oS 1 ZgA)) ZdB
noncomputable abbrev K135:=cn (a1 (eS (arC .u8))) (r1 (eA .u8)) Zfq
noncomputable abbrev K74:=cn (a1 (eS ZQ)) (r1 (eA .u8)) Zgw
noncomputable abbrev K36:=cn (a1 (eG Yq)) (r1 (eI .i64)) Zfr
noncomputable abbrev K37:Con (Tapi_Dispute×(Arr 32)) (Tapi_Dispute×(List Int)×Int):=cn (a2 (eG ZaF) (eA .u8)) (r3 (eG ZaF) (eL .i64) (eI .i64)) (u2 ZcP)
noncomputable abbrev K13:Con (Tapi_Dispute×(Arr 32)×Tapi_Block) ((Arr 32)×(List Int)×Int):=cn (a3 (eG ZaF) (eA .u8) (eG Yq)) (r3 (eA .u8) (eL .i64) (eI .i64)) (u3 ZdC)
noncomputable abbrev K41:=cn (a2 (eA .u8) (eA .u8)) (r1 (eA .u8)) (u2 Zek)
noncomputable abbrev K16:=cn (a2 (eA .u8) (eS (arC .u8))) (r1 (oS 32 (arC .u8))) (u2 Zfs)
noncomputable abbrev K44:=cn (a4 (eS (arC .u8)) (eI .i64) (eI .i64) (eL .u8)) (r1 (eA .u8)) (u4 Zft)
noncomputable abbrev K17:=cn (a6 (eS (arC .u8)) (eI .i64) (eI .i64) (eL .u8) (eL .u8) (eI .i64)) (r1 (oS 33 eapi_Claim)) (u6 ZcZ)
def E47 (x:(List Tapi_Claim)):List PV:=[.one (.slice .no (List.map eapi_Claim x))]
theorem E47i:∀ a b,E47 a=E47 b→a=b:=by
  rintro a0 b0 h
  simpa[E47,and_assoc] using h
def R47 (x:(List Tapi_Claim)) (y:(List Tapi_Claim)):PV×List (List Cell):=(.one (.own 33 (List.map eapi_Claim y)),[])
noncomputable def G47:=Zab E47 fun x=>(Zu x).map (R47 x)
theorem ZvJ {a0:(List Tapi_Claim)}{y:(List Tapi_Claim)}(h:Zu a0=some y):G47 (E47 a0)=some (R47 a0 y):=YD E47i h
noncomputable abbrev K18:Con (Int×(Arr 32)×Int×(List Tapi_Claim)) (Tapi_Dispute×Int):=cn (a4 (eI .i64) (eA .u8) (eI .i64) (eS eapi_Claim)) (r2 (eG ZaF) (eI .i64)) (u4 Zaf)
noncomputable abbrev K19:Con Tapi_Dispute (Int×Bool):=cn (a1 (eG ZaF)) (r2 (eI .i64) eB) Xq
noncomputable abbrev K48:=cn (a1 (eS eapi_Claim)) (r1 eB) Zag
noncomputable abbrev K20:Con (Tapi_Dispute×(List Tapi_Claim)) (Tapi_Dispute×(List Int)×Int):=cn (a2 (eG ZaF) (eS eapi_Claim)) (r3 (eG ZaF) (eL .i64) (eI .i64)) (u2 XN)
noncomputable abbrev K21:=cn (a2 (eI .i64) (eI .i64)) (r1 (eI .i64)) (u2 Zau)
def E4 (x:Int×(List Int)×(List Int)×(List Int)×Int):List PV:=[.one (.v (.int .u8 x.1)),.one (.slice .no (Zg .u8 x.2.1)),.one (.slice .no (Zg .u8 x.2.2.1)),.one (.slice .no (Zg .u8 x.2.2.2.1)),.one (.v (.int .u8 x.2.2.2.2))]
theorem E4i:∀ a b,E4 a=E4 b→a=b:=by
  rintro⟨a0,a1,a2,a3,a4⟩ ⟨b0,b1,b2,b3,b4⟩ h
  simpa[E4,and_assoc] using h
def R4 (x:Int×(List Int)×(List Int)×(List Int)×Int) (y:Bool):PV×List (List Cell):=(.one (.v (.bool y)),[])
noncomputable def G4:=Zab E4 fun x=>(Xn x.1 x.2.1 x.2.2.1 x.2.2.2.1 x.2.2.2.2).map (R4 x)
theorem ZzR {a0:Int}{a1:(List Int)}{a2:(List Int)}{a3:(List Int)}{a4:Int}{y:Bool}(h:Xn a0 a1 a2 a3 a4=some y):G4 (E4 (a0,a1,a2,a3,a4))=some (R4 (a0,a1,a2,a3,a4) y):=YD E4i h
theorem rg {tt:TT}{T:Tab}{G:Glob}{a b:List Oper}{st st1:ASt}(h:Zdd tt T G a b st=some st1:=by
  first
    | (simp[-Int.ofNat_toNat,ZK, *] <;> first | rfl | (repeat (simp(disch:=omega) only[leT,ltT,Zkr,Zks,leF,ltF,Zkt,Zku,ZbE]; try simp[-Int.ofNat_toNat,ZK, *])) <;> rfl)
    | fail):Zdd tt T G a b st=some st1:=h
theorem dr {tt:TT}{T:Tab}{G:Glob}{a b:List Oper}{st st1:ASt}{fs:List Foot}(h:ZdF tt T G a b st=some (st1,fs):=by
  first
    | (simp[-Int.ofNat_toNat,ZK, *] <;> first | exact⟨rfl,rfl⟩ | rfl | (repeat (simp(disch:=omega) only[leT,ltT,Zkr,Zks,leF,ltF,Zkt,Zku,ZbE]; try simp[-Int.ofNat_toNat,ZK, *])) <;> first | exact⟨rfl,rfl⟩ | rfl)
    | fail):ZdF tt T G a b st=some (st1,fs):=h
theorem rgA {tt:TT}{T:Tab}{G:Glob}{a b:List Oper}{st st1:ASt}(h:Zdd tt T G a b st=some st1:=by
  first
    | (simp[-Int.ofNat_toNat,Nat.add_assoc,ZK, *] <;> first | rfl | (repeat (simp(disch:=omega) only[leT,ltT,Zkr,Zks,leF,ltF,Zkt,Zku,ZbE]; try simp[-Int.ofNat_toNat,Nat.add_assoc,ZK, *])) <;> rfl)
    | fail):Zdd tt T G a b st=some st1:=h
theorem drA {tt:TT}{T:Tab}{G:Glob}{a b:List Oper}{st st1:ASt}{fs:List Foot}(h:ZdF tt T G a b st=some (st1,fs):=by
  first
    | (simp[-Int.ofNat_toNat,Nat.add_assoc,ZK, *] <;> first | exact⟨rfl,rfl⟩ | rfl | (repeat (simp(disch:=omega) only[leT,ltT,Zkr,Zks,leF,ltF,Zkt,Zku,ZbE]; try simp[-Int.ofNat_toNat,Nat.add_assoc,ZK, *])) <;> first | exact⟨rfl,rfl⟩ | rfl)
    | fail):ZdF tt T G a b st=some (st1,fs):=h
theorem rgAD {tt:TT}{T:Tab}{G:Glob}{a b:List Oper}{st st1:ASt}(h:Zdd tt T G a b st=some st1:=by
  first
    | (simp[-Int.ofNat_toNat,Nat.add_assoc,-Int.natCast_tdiv_eq_ediv,ZK, *] <;> first | rfl | (repeat (simp(disch:=omega) only[leT,ltT,Zkr,Zks,leF,ltF,Zkt,Zku,ZbE]; try simp[-Int.ofNat_toNat,Nat.add_assoc,-Int.natCast_tdiv_eq_ediv,ZK, *])) <;> rfl)
    | fail):Zdd tt T G a b st=some st1:=h
theorem drAD {tt:TT}{T:Tab}{G:Glob}{a b:List Oper}{st st1:ASt}{fs:List Foot}(h:ZdF tt T G a b st=some (st1,fs):=by
  first
    | (simp[-Int.ofNat_toNat,Nat.add_assoc,-Int.natCast_tdiv_eq_ediv,ZK, *] <;> first | exact⟨rfl,rfl⟩ | rfl | (repeat (simp(disch:=omega) only[leT,ltT,Zkr,Zks,leF,ltF,Zkt,Zku,ZbE]; try simp[-Int.ofNat_toNat,Nat.add_assoc,-Int.natCast_tdiv_eq_ediv,ZK, *])) <;> first | exact⟨rfl,rfl⟩ | rfl)
    | fail):ZdF tt T G a b st=some (st1,fs):=h
theorem ZvK {tt:TT}{T:Tab}{G:Glob}{a b:List Oper}{st st1:ASt}(h:Zdd tt T G a b st=some st1:=by
  first
    | (simp[-Int.ofNat_toNat,Nat.add_assoc,-Int.natCast_tdiv_eq_ediv,List.range,List.range.loop,-YE,-List.take_append,-List.drop_append,ZK, *] <;> first | rfl | (repeat (simp(disch:=omega) only[leT,ltT,Zkr,Zks,leF,ltF,Zkt,Zku,ZbE]; try simp[-Int.ofNat_toNat,Nat.add_assoc,-Int.natCast_tdiv_eq_ediv,List.range,List.range.loop,-YE,-List.take_append,-List.drop_append,ZK, *])) <;> rfl)
    | fail):Zdd tt T G a b st=some st1:=h
theorem ZvL {tt:TT}{T:Tab}{G:Glob}{a b:List Oper}{st st1:ASt}{fs:List Foot}(h:ZdF tt T G a b st=some (st1,fs):=by
  first
    | (simp[-Int.ofNat_toNat,Nat.add_assoc,-Int.natCast_tdiv_eq_ediv,List.range,List.range.loop,-YE,-List.take_append,-List.drop_append,ZK, *] <;> first | exact⟨rfl,rfl⟩ | rfl | (repeat (simp(disch:=omega) only[leT,ltT,Zkr,Zks,leF,ltF,Zkt,Zku,ZbE]; try simp[-Int.ofNat_toNat,Nat.add_assoc,-Int.natCast_tdiv_eq_ediv,List.range,List.range.loop,-YE,-List.take_append,-List.drop_append,ZK, *])) <;> first | exact⟨rfl,rfl⟩ | rfl)
    | fail):ZdF tt T G a b st=some (st1,fs):=h
theorem rgL {tt:TT}{T:Tab}{G:Glob}{a b:List Oper}{st st1:ASt}(h:Zdd tt T G a b st=some st1:=by
  first
    | (simp[-Int.ofNat_toNat,-Zt,Zp,ZK, *] <;> first | rfl | (repeat (simp(disch:=omega) only[leT,ltT,Zkr,Zks,leF,ltF,Zkt,Zku,ZbE]; try simp[-Int.ofNat_toNat,-Zt,Zp,ZK, *])) <;> rfl)
    | fail):Zdd tt T G a b st=some st1:=h
theorem drL {tt:TT}{T:Tab}{G:Glob}{a b:List Oper}{st st1:ASt}{fs:List Foot}(h:ZdF tt T G a b st=some (st1,fs):=by
  first
    | (simp[-Int.ofNat_toNat,-Zt,Zp,ZK, *] <;> first | exact⟨rfl,rfl⟩ | rfl | (repeat (simp(disch:=omega) only[leT,ltT,Zkr,Zks,leF,ltF,Zkt,Zku,ZbE]; try simp[-Int.ofNat_toNat,-Zt,Zp,ZK, *])) <;> first | exact⟨rfl,rfl⟩ | rfl)
    | fail):ZdF tt T G a b st=some (st1,fs):=h
theorem rgR {tt:TT}{T:Tab}{G:Glob}{a b:List Oper}{st st1:ASt}(h:Zdd tt T G a b st=some st1:=by
  first
    | (simp[-Int.ofNat_toNat,List.range,List.range.loop,ZK, *] <;> first | rfl | (repeat (simp(disch:=omega) only[leT,ltT,Zkr,Zks,leF,ltF,Zkt,Zku,ZbE]; try simp[-Int.ofNat_toNat,List.range,List.range.loop,ZK, *])) <;> rfl)
    | fail):Zdd tt T G a b st=some st1:=h
theorem drR {tt:TT}{T:Tab}{G:Glob}{a b:List Oper}{st st1:ASt}{fs:List Foot}(h:ZdF tt T G a b st=some (st1,fs):=by
  first
    | (simp[-Int.ofNat_toNat,List.range,List.range.loop,ZK, *] <;> first | exact⟨rfl,rfl⟩ | rfl | (repeat (simp(disch:=omega) only[leT,ltT,Zkr,Zks,leF,ltF,Zkt,Zku,ZbE]; try simp[-Int.ofNat_toNat,List.range,List.range.loop,ZK, *])) <;> first | exact⟨rfl,rfl⟩ | rfl)
    | fail):ZdF tt T G a b st=some (st1,fs):=h
theorem au {P:Prop}{R1 R2 R3:Prop}(k1:R1:=by exact trivial) (k2:R2:=by exact trivial) (k3:R3:=by exact trivial) (t:∀ X1:Prop,X1→Zbo X1 R1→∀ X2:Prop,X2→Zbo X2 R2→∀ X3:Prop,X3→Zbo X3 R3→P:=by
  intro X1 x1 e1 X2 x2 e2 X3 x3 e3;try simp only[upd,Zjb,updB,setB,List.foldl,List.set,und,List.replicate,List.cons_append,List.nil_append,reduceIte,Nat.lt_irrefl,Nat.reduceLT]
  repeat' (first
    | (with_reducible refine ZkS ?_)
    | (with_reducible refine ZkR (by assumption) ?_)
    | ((with_reducible refine Zlk ?_); intro v f f f)
    | (with_reducible refine ZjA (by assumption) ?_)
    | ((with_reducible refine Zl8 ?_); intro f; try simp only[List.length_replicate,List.length_set,List.length_take,List.length_drop,List.length_append] at f)
    | ((with_reducible refine ZkQ ?_); intro v f f; try simp only[Con.Q,kS,nf,nfs,Z5,ZhO,ZjP,E57,R57,E90,R90,Zkx,ZlZ,Zky,Zl0,ZhP,ZjQ,ZhQ,ZjR,ZiA,Zkz,ZiB,ZkA,E23_1,E171_2,E172_3,E49,R49,Zc9,Zfw,Zda,Zfx,E66,R66,E33,R33,E47,R47,List.length_replicate,List.length_set] at f)
    | ((with_reducible refine Zmb ?_); intro e; subst e; refine ZkU ?_)
    | ((with_reducible refine Zma ?_); intro v e; (try rw[e]))
    | (with_reducible refine ZiH ?_)
    | (with_reducible exact im_none)
    | (with_reducible exact ZjB)
    | ((with_reducible refine Zay ?_); (repeat (first | revert f | revert g | revert e | revert v)); exact ZgE e1 x1)
    | ((with_reducible refine Zay ?_); (repeat (first | revert f | revert g | revert e | revert v)); exact ZgE e2 x2)
    | ((with_reducible refine Zay ?_); (repeat (first | revert f | revert g | revert e | revert v)); exact ZgE e3 x3)
    | (with_reducible refine ZfO ?_)
    | (with_reducible refine Zci ?_)
    | (with_reducible refine Zbp ?_)
    | (with_reducible refine Zcj ?_)
    | (with_reducible refine Zdi ?_)
    | (with_reducible refine ZfP ?_)
    | (with_reducible refine Zhy ?_)
    | (with_reducible refine Zhz ?_)
    | (with_reducible refine Zja ?_)
    | ((with_reducible refine YL ?_ ?_); · simp[-Int.ofNat_toNat,bV, *]; done)
    | ((with_reducible refine YM ?_ ?_); · simp[-Int.ofNat_toNat,bV, *]; done)
    | (refine Zdh rfl rg ?_)
    | (refine Zch rfl dr (by kernel_rfl) ?_)
    | ((with_reducible refine ZaT ?_ ?_); · simp[-Int.ofNat_toNat,bV, *]; done)
    | ((with_reducible refine ZaU ?_ ?_); · simp[-Int.ofNat_toNat,bV, *]; done)
    | (refine Zi9 rfl rg ?_)
    | (refine Zhx rfl dr (by kernel_rfl) ?_)
    | (refine ZfQ ?_ (by simp only[pq,reduceCtorEq]; rfl))
    | (refine ZfQ ?_ (if_neg (by decide)))
    | (with_reducible refine Zfu (by assumption) ?_)
    | (with_reducible refine Zfu (of_eq_true (by assumption)) ?_)
    | (with_reducible refine Zll (by assumption) ?_)
    | (with_reducible refine ZdD (by assumption) ?_)
    | (with_reducible refine ZdD (of_eq_true (by assumption)) ?_)
    | (with_reducible refine ZjC (by assumption) ?_)
    | (with_reducible refine ZkT ?_)
    | (with_reducible refine ZjD ?_)
    | (with_reducible refine ZjE ?_)
    | ((with_reducible refine ZnW ?_ ?_) <;> (intro f; (try replace f:=Classical.not_not.1 f); have g:=nrm f; try replace f:=eqI f))
    | ((with_reducible refine Zl9 ?_ ?_) <;> (intro f; (try replace f:=Classical.not_not.1 f); have g:=nrm f; try replace f:=eqI f))
    | ((with_reducible refine YL ?_ ?_); · simp[-Int.ofNat_toNat,bV, *]; omega)
    | ((with_reducible refine YM ?_ ?_); · simp[-Int.ofNat_toNat,bV, *]; omega)
    | ((with_reducible refine ZaT ?_ ?_); · simp[-Int.ofNat_toNat,bV, *]; omega)
    | ((with_reducible refine ZaU ?_ ?_); · simp[-Int.ofNat_toNat,bV, *]; omega)
    | ((with_reducible refine ZnX ?_); intro e; (try rw[e]))
    | ((fail_if_success (have:v=true:=by assumption)); (fail_if_success (have:v=false:=by assumption)); (with_reducible refine ZkV v ?_ ?_) <;> (intro f; try (exfalso; simp_all; done)))
    | (intro _; simp[-Int.ofNat_toNat,YP,ZK, *]; done)
    | (intro _; simp only[pq,reduceCtorEq]; simp[-Int.ofNat_toNat,und,List.replicate,Nat.add_assoc,upd,Zjb,updB, *]; done))):P:=t R1 k1 ⟨rfl⟩ R2 k2 ⟨rfl⟩ R3 k3 ⟨rfl⟩
theorem auA {P:Prop}{R1 R2 R3:Prop}(k1:R1:=by exact trivial) (k2:R2:=by exact trivial) (k3:R3:=by exact trivial) (t:∀ X1:Prop,X1→Zbo X1 R1→∀ X2:Prop,X2→Zbo X2 R2→∀ X3:Prop,X3→Zbo X3 R3→P:=by
  intro X1 x1 e1 X2 x2 e2 X3 x3 e3;try simp only[upd,Zjb,updB,setB,List.foldl,List.set,und,List.replicate,List.cons_append,List.nil_append,reduceIte,Nat.lt_irrefl,Nat.reduceLT]
  repeat' (first
    | (with_reducible refine ZkS ?_)
    | (with_reducible refine ZkR (by assumption) ?_)
    | ((with_reducible refine Zlk ?_); intro v f f f)
    | (with_reducible refine ZjA (by assumption) ?_)
    | ((with_reducible refine Zl8 ?_); intro f; try simp only[List.length_replicate,List.length_set,List.length_take,List.length_drop,List.length_append] at f)
    | ((with_reducible refine ZkQ ?_); intro v f f; try simp only[Con.Q,kS,nf,nfs,Z5,ZhO,ZjP,E57,R57,E90,R90,Zkx,ZlZ,Zky,Zl0,ZhP,ZjQ,ZhQ,ZjR,ZiA,Zkz,ZiB,ZkA,E23_1,E171_2,E172_3,E49,R49,Zc9,Zfw,Zda,Zfx,E66,R66,E33,R33,E47,R47,List.length_replicate,List.length_set] at f)
    | ((with_reducible refine Zmb ?_); intro e; subst e; refine ZkU ?_)
    | ((with_reducible refine Zma ?_); intro v e; (try rw[e]))
    | (with_reducible refine ZiH ?_)
    | (with_reducible exact im_none)
    | (with_reducible exact ZjB)
    | ((with_reducible refine Zay ?_); (repeat (first | revert f | revert g | revert e | revert v)); exact ZgE e1 x1)
    | ((with_reducible refine Zay ?_); (repeat (first | revert f | revert g | revert e | revert v)); exact ZgE e2 x2)
    | ((with_reducible refine Zay ?_); (repeat (first | revert f | revert g | revert e | revert v)); exact ZgE e3 x3)
    | (with_reducible refine ZfO ?_)
    | (with_reducible refine Zci ?_)
    | (with_reducible refine Zbp ?_)
    | (with_reducible refine Zcj ?_)
    | (with_reducible refine Zdi ?_)
    | (with_reducible refine ZfP ?_)
    | (with_reducible refine Zhy ?_)
    | (with_reducible refine Zhz ?_)
    | (with_reducible refine Zja ?_)
    | ((with_reducible refine YL ?_ ?_); · simp[-Int.ofNat_toNat,bV, *]; done)
    | ((with_reducible refine YM ?_ ?_); · simp[-Int.ofNat_toNat,bV, *]; done)
    | (refine Zdh rfl rgA ?_)
    | (refine Zch rfl drA (by kernel_rfl) ?_)
    | ((with_reducible refine ZaT ?_ ?_); · simp[-Int.ofNat_toNat,bV, *]; done)
    | ((with_reducible refine ZaU ?_ ?_); · simp[-Int.ofNat_toNat,bV, *]; done)
    | (refine Zi9 rfl rgA ?_)
    | (refine Zhx rfl drA (by kernel_rfl) ?_)
    | (refine ZfQ ?_ (by simp only[pq,reduceCtorEq]; rfl))
    | (refine ZfQ ?_ (if_neg (by decide)))
    | (with_reducible refine Zfu (by assumption) ?_)
    | (with_reducible refine Zfu (of_eq_true (by assumption)) ?_)
    | (with_reducible refine Zll (by assumption) ?_)
    | (with_reducible refine ZdD (by assumption) ?_)
    | (with_reducible refine ZdD (of_eq_true (by assumption)) ?_)
    | (with_reducible refine ZjC (by assumption) ?_)
    | (with_reducible refine ZkT ?_)
    | (with_reducible refine ZjD ?_)
    | (with_reducible refine ZjE ?_)
    | ((with_reducible refine ZnW ?_ ?_) <;> (intro f; (try replace f:=Classical.not_not.1 f); have g:=nrm f; try replace f:=eqI f))
    | ((with_reducible refine Zl9 ?_ ?_) <;> (intro f; (try replace f:=Classical.not_not.1 f); have g:=nrm f; try replace f:=eqI f))
    | ((with_reducible refine YL ?_ ?_); · simp[-Int.ofNat_toNat,bV, *]; omega)
    | ((with_reducible refine YM ?_ ?_); · simp[-Int.ofNat_toNat,bV, *]; omega)
    | ((with_reducible refine ZaT ?_ ?_); · simp[-Int.ofNat_toNat,bV, *]; omega)
    | ((with_reducible refine ZaU ?_ ?_); · simp[-Int.ofNat_toNat,bV, *]; omega)
    | ((with_reducible refine ZnX ?_); intro e; (try rw[e]))
    | ((fail_if_success (have:v=true:=by assumption)); (fail_if_success (have:v=false:=by assumption)); (with_reducible refine ZkV v ?_ ?_) <;> (intro f; try (exfalso; simp_all; done)))
    | (intro _; simp[-Int.ofNat_toNat,YP,ZK, *]; done)
    | (intro _; simp only[pq,reduceCtorEq]; simp[-Int.ofNat_toNat,und,List.replicate,Nat.add_assoc,upd,Zjb,updB, *]; done))):P:=t R1 k1 ⟨rfl⟩ R2 k2 ⟨rfl⟩ R3 k3 ⟨rfl⟩
theorem ZiC {P:Prop}{R1 R2 R3:Prop}(k1:R1:=by exact trivial) (k2:R2:=by exact trivial) (k3:R3:=by exact trivial) (t:∀ X1:Prop,X1→Zbo X1 R1→∀ X2:Prop,X2→Zbo X2 R2→∀ X3:Prop,X3→Zbo X3 R3→P:=by
  intro X1 x1 e1 X2 x2 e2 X3 x3 e3;try simp only[upd,Zjb,updB,setB,List.foldl,List.set,und,List.replicate,List.cons_append,List.nil_append,reduceIte,Nat.lt_irrefl,Nat.reduceLT]
  repeat' (first
    | (with_reducible refine ZkS ?_)
    | (with_reducible refine ZkR (by assumption) ?_)
    | ((with_reducible refine Zlk ?_); intro v f f f)
    | (with_reducible refine ZjA (by assumption) ?_)
    | ((with_reducible refine Zl8 ?_); intro f; try simp only[List.length_replicate,List.length_set,List.length_take,List.length_drop,List.length_append] at f)
    | ((with_reducible refine ZkQ ?_); intro v f f; try simp only[Con.Q,kS,nf,nfs,Z5,ZhO,ZjP,E57,R57,E90,R90,Zkx,ZlZ,Zky,Zl0,ZhP,ZjQ,ZhQ,ZjR,ZiA,Zkz,ZiB,ZkA,E23_1,E171_2,E172_3,E49,R49,Zc9,Zfw,Zda,Zfx,E66,R66,E33,R33,E47,R47,List.length_replicate,List.length_set] at f)
    | ((with_reducible refine Zmb ?_); intro e; subst e; refine ZkU ?_)
    | ((with_reducible refine Zma ?_); intro v e; (try rw[e]))
    | (with_reducible refine ZiH ?_)
    | (with_reducible exact im_none)
    | (with_reducible exact ZjB)
    | ((with_reducible refine Zay ?_); (repeat (first | revert f | revert g | revert e | revert v)); exact ZgE e1 x1)
    | ((with_reducible refine Zay ?_); (repeat (first | revert f | revert g | revert e | revert v)); exact ZgE e2 x2)
    | ((with_reducible refine Zay ?_); (repeat (first | revert f | revert g | revert e | revert v)); exact ZgE e3 x3)
    | (with_reducible refine ZfO ?_)
    | (with_reducible refine Zci ?_)
    | (with_reducible refine Zbp ?_)
    | (with_reducible refine Zcj ?_)
    | (with_reducible refine Zdi ?_)
    | (with_reducible refine ZfP ?_)
    | (with_reducible refine Zhy ?_)
    | (with_reducible refine Zhz ?_)
    | (with_reducible refine Zja ?_)
    | ((with_reducible refine YL ?_ ?_); · simp[-Int.ofNat_toNat,bV, *]; done)
    | ((with_reducible refine YM ?_ ?_); · simp[-Int.ofNat_toNat,bV, *]; done)
    | (refine Zdh rfl rgAD ?_)
    | (refine Zch rfl drAD (by kernel_rfl) ?_)
    | ((with_reducible refine ZaT ?_ ?_); · simp[-Int.ofNat_toNat,bV, *]; done)
    | ((with_reducible refine ZaU ?_ ?_); · simp[-Int.ofNat_toNat,bV, *]; done)
    | (refine Zi9 rfl rgAD ?_)
    | (refine Zhx rfl drAD (by kernel_rfl) ?_)
    | (refine ZfQ ?_ (by simp only[pq,reduceCtorEq]; rfl))
    | (refine ZfQ ?_ (if_neg (by decide)))
    | (with_reducible refine Zfu (by assumption) ?_)
    | (with_reducible refine Zfu (of_eq_true (by assumption)) ?_)
    | (with_reducible refine Zll (by assumption) ?_)
    | (with_reducible refine ZdD (by assumption) ?_)
    | (with_reducible refine ZdD (of_eq_true (by assumption)) ?_)
    | (with_reducible refine ZjC (by assumption) ?_)
    | (with_reducible refine ZkT ?_)
    | (with_reducible refine ZjD ?_)
    | (with_reducible refine ZjE ?_)
    | ((with_reducible refine ZnW ?_ ?_) <;> (intro f; (try replace f:=Classical.not_not.1 f); have g:=nrm f; try replace f:=eqI f))
    | ((with_reducible refine Zl9 ?_ ?_) <;> (intro f; (try replace f:=Classical.not_not.1 f); have g:=nrm f; try replace f:=eqI f))
    | ((with_reducible refine YL ?_ ?_); · simp[-Int.ofNat_toNat,bV, *]; omega)
    | ((with_reducible refine YM ?_ ?_); · simp[-Int.ofNat_toNat,bV, *]; omega)
    | ((with_reducible refine ZaT ?_ ?_); · simp[-Int.ofNat_toNat,bV, *]; omega)
    | ((with_reducible refine ZaU ?_ ?_); · simp[-Int.ofNat_toNat,bV, *]; omega)
    | ((with_reducible refine ZnX ?_); intro e; (try rw[e]))
    | ((fail_if_success (have:v=true:=by assumption)); (fail_if_success (have:v=false:=by assumption)); (with_reducible refine ZkV v ?_ ?_) <;> (intro f; try (exfalso; simp_all; done)))
    | (intro _; simp[-Int.ofNat_toNat,YP,ZK, *]; done)
    | (intro _; simp only[pq,reduceCtorEq]; simp[-Int.ofNat_toNat,und,List.replicate,Nat.add_assoc,upd,Zjb,updB, *]; done))):P:=t R1 k1 ⟨rfl⟩ R2 k2 ⟨rfl⟩ R3 k3 ⟨rfl⟩
theorem ZrX {P:Prop}{R1 R2 R3:Prop}(k1:R1:=by exact trivial) (k2:R2:=by exact trivial) (k3:R3:=by exact trivial) (t:∀ X1:Prop,X1→Zbo X1 R1→∀ X2:Prop,X2→Zbo X2 R2→∀ X3:Prop,X3→Zbo X3 R3→P:=by
  intro X1 x1 e1 X2 x2 e2 X3 x3 e3;try simp only[upd,Zjb,updB,setB,List.foldl,List.set,und,List.replicate,List.cons_append,List.nil_append,reduceIte,Nat.lt_irrefl,Nat.reduceLT]
  repeat' (first
    | (with_reducible refine ZkS ?_)
    | (with_reducible refine ZkR (by assumption) ?_)
    | ((with_reducible refine Zlk ?_); intro v f f f)
    | (with_reducible refine ZjA (by assumption) ?_)
    | ((with_reducible refine Zl8 ?_); intro f; try simp only[List.length_replicate,List.length_set,List.length_take,List.length_drop,List.length_append] at f)
    | ((with_reducible refine ZkQ ?_); intro v f f; try simp only[Con.Q,kS,nf,nfs,Z5,ZhO,ZjP,E57,R57,E90,R90,Zkx,ZlZ,Zky,Zl0,ZhP,ZjQ,ZhQ,ZjR,ZiA,Zkz,ZiB,ZkA,E23_1,E171_2,E172_3,E49,R49,Zc9,Zfw,Zda,Zfx,E66,R66,E33,R33,E47,R47,List.length_replicate,List.length_set] at f)
    | ((with_reducible refine Zmb ?_); intro e; subst e; refine ZkU ?_)
    | ((with_reducible refine Zma ?_); intro v e; (try rw[e]))
    | (with_reducible refine ZiH ?_)
    | (with_reducible exact im_none)
    | (with_reducible exact ZjB)
    | ((with_reducible refine Zay ?_); (repeat (first | revert f | revert g | revert e | revert v)); exact ZgE e1 x1)
    | ((with_reducible refine Zay ?_); (repeat (first | revert f | revert g | revert e | revert v)); exact ZgE e2 x2)
    | ((with_reducible refine Zay ?_); (repeat (first | revert f | revert g | revert e | revert v)); exact ZgE e3 x3)
    | (with_reducible refine ZfO ?_)
    | (with_reducible refine Zci ?_)
    | (with_reducible refine Zbp ?_)
    | (with_reducible refine Zcj ?_)
    | (with_reducible refine Zdi ?_)
    | (with_reducible refine ZfP ?_)
    | (with_reducible refine Zhy ?_)
    | (with_reducible refine Zhz ?_)
    | (with_reducible refine Zja ?_)
    | ((with_reducible refine YL ?_ ?_); · simp[-Int.ofNat_toNat,bV, *]; done)
    | ((with_reducible refine YM ?_ ?_); · simp[-Int.ofNat_toNat,bV, *]; done)
    | (refine Zdh rfl ZvK ?_)
    | (refine Zch rfl ZvL (by kernel_rfl) ?_)
    | ((with_reducible refine ZaT ?_ ?_); · simp[-Int.ofNat_toNat,bV, *]; done)
    | ((with_reducible refine ZaU ?_ ?_); · simp[-Int.ofNat_toNat,bV, *]; done)
    | (refine Zi9 rfl ZvK ?_)
    | (refine Zhx rfl ZvL (by kernel_rfl) ?_)
    | (refine ZfQ ?_ (by simp only[pq,reduceCtorEq]; rfl))
    | (refine ZfQ ?_ (if_neg (by decide)))
    | (with_reducible refine Zfu (by assumption) ?_)
    | (with_reducible refine Zfu (of_eq_true (by assumption)) ?_)
    | (with_reducible refine Zll (by assumption) ?_)
    | (with_reducible refine ZdD (by assumption) ?_)
    | (with_reducible refine ZdD (of_eq_true (by assumption)) ?_)
    | (with_reducible refine ZjC (by assumption) ?_)
    | (with_reducible refine ZkT ?_)
    | (with_reducible refine ZjD ?_)
    | (with_reducible refine ZjE ?_)
    | ((with_reducible refine ZnW ?_ ?_) <;> (intro f; (try replace f:=Classical.not_not.1 f); have g:=nrm f; try replace f:=eqI f))
    | ((with_reducible refine Zl9 ?_ ?_) <;> (intro f; (try replace f:=Classical.not_not.1 f); have g:=nrm f; try replace f:=eqI f))
    | ((with_reducible refine YL ?_ ?_); · simp[-Int.ofNat_toNat,bV, *]; omega)
    | ((with_reducible refine YM ?_ ?_); · simp[-Int.ofNat_toNat,bV, *]; omega)
    | ((with_reducible refine ZaT ?_ ?_); · simp[-Int.ofNat_toNat,bV, *]; omega)
    | ((with_reducible refine ZaU ?_ ?_); · simp[-Int.ofNat_toNat,bV, *]; omega)
    | ((with_reducible refine ZnX ?_); intro e; (try rw[e]))
    | ((fail_if_success (have:v=true:=by assumption)); (fail_if_success (have:v=false:=by assumption)); (with_reducible refine ZkV v ?_ ?_) <;> (intro f; try (exfalso; simp_all; done)))
    | (intro _; simp[-Int.ofNat_toNat,YP,ZK, *]; done)
    | (intro _; simp only[pq,reduceCtorEq]; simp[-Int.ofNat_toNat,und,List.replicate,Nat.add_assoc,upd,Zjb,updB, *]; done))):P:=t R1 k1 ⟨rfl⟩ R2 k2 ⟨rfl⟩ R3 k3 ⟨rfl⟩
theorem auL {P:Prop}{R1 R2 R3:Prop}(k1:R1:=by exact trivial) (k2:R2:=by exact trivial) (k3:R3:=by exact trivial) (t:∀ X1:Prop,X1→Zbo X1 R1→∀ X2:Prop,X2→Zbo X2 R2→∀ X3:Prop,X3→Zbo X3 R3→P:=by
  intro X1 x1 e1 X2 x2 e2 X3 x3 e3;try simp only[upd,Zjb,updB,setB,List.foldl,List.set,und,List.replicate,List.cons_append,List.nil_append,reduceIte,Nat.lt_irrefl,Nat.reduceLT]
  repeat' (first
    | (with_reducible refine ZkS ?_)
    | (with_reducible refine ZkR (by assumption) ?_)
    | ((with_reducible refine Zlk ?_); intro v f f f)
    | (with_reducible refine ZjA (by assumption) ?_)
    | ((with_reducible refine Zl8 ?_); intro f; try simp only[List.length_replicate,List.length_set,List.length_take,List.length_drop,List.length_append] at f)
    | ((with_reducible refine ZkQ ?_); intro v f f; try simp only[Con.Q,kS,nf,nfs,Z5,ZhO,ZjP,E57,R57,E90,R90,Zkx,ZlZ,Zky,Zl0,ZhP,ZjQ,ZhQ,ZjR,ZiA,Zkz,ZiB,ZkA,E23_1,E171_2,E172_3,E49,R49,Zc9,Zfw,Zda,Zfx,E66,R66,E33,R33,E47,R47,List.length_replicate,List.length_set] at f)
    | ((with_reducible refine Zmb ?_); intro e; subst e; refine ZkU ?_)
    | ((with_reducible refine Zma ?_); intro v e; (try rw[e]))
    | (with_reducible refine ZiH ?_)
    | (with_reducible exact im_none)
    | (with_reducible exact ZjB)
    | ((with_reducible refine Zay ?_); (repeat (first | revert f | revert g | revert e | revert v)); exact ZgE e1 x1)
    | ((with_reducible refine Zay ?_); (repeat (first | revert f | revert g | revert e | revert v)); exact ZgE e2 x2)
    | ((with_reducible refine Zay ?_); (repeat (first | revert f | revert g | revert e | revert v)); exact ZgE e3 x3)
    | (with_reducible refine ZfO ?_)
    | (with_reducible refine Zci ?_)
    | (with_reducible refine Zbp ?_)
    | (with_reducible refine Zcj ?_)
    | (with_reducible refine Zdi ?_)
    | (with_reducible refine ZfP ?_)
    | (with_reducible refine Zhy ?_)
    | (with_reducible refine Zhz ?_)
    | (with_reducible refine Zja ?_)
    | ((with_reducible refine YL ?_ ?_); · simp[-Int.ofNat_toNat,bV, *]; done)
    | ((with_reducible refine YM ?_ ?_); · simp[-Int.ofNat_toNat,bV, *]; done)
    | (refine Zdh rfl rgL ?_)
    | (refine Zch rfl drL (by kernel_rfl) ?_)
    | ((with_reducible refine ZaT ?_ ?_); · simp[-Int.ofNat_toNat,bV, *]; done)
    | ((with_reducible refine ZaU ?_ ?_); · simp[-Int.ofNat_toNat,bV, *]; done)
    | (refine Zi9 rfl rgL ?_)
    | (refine Zhx rfl drL (by kernel_rfl) ?_)
    | (refine ZfQ ?_ (by simp only[pq,reduceCtorEq]; rfl))
    | (refine ZfQ ?_ (if_neg (by decide)))
    | (with_reducible refine Zfu (by assumption) ?_)
    | (with_reducible refine Zfu (of_eq_true (by assumption)) ?_)
    | (with_reducible refine Zll (by assumption) ?_)
    | (with_reducible refine ZdD (by assumption) ?_)
    | (with_reducible refine ZdD (of_eq_true (by assumption)) ?_)
    | (with_reducible refine ZjC (by assumption) ?_)
    | (with_reducible refine ZkT ?_)
    | (with_reducible refine ZjD ?_)
    | (with_reducible refine ZjE ?_)
    | ((with_reducible refine ZnW ?_ ?_) <;> (intro f; (try replace f:=Classical.not_not.1 f); have g:=nrm f; try replace f:=eqI f))
    | ((with_reducible refine Zl9 ?_ ?_) <;> (intro f; (try replace f:=Classical.not_not.1 f); have g:=nrm f; try replace f:=eqI f))
    | ((with_reducible refine YL ?_ ?_); · simp[-Int.ofNat_toNat,bV, *]; omega)
    | ((with_reducible refine YM ?_ ?_); · simp[-Int.ofNat_toNat,bV, *]; omega)
    | ((with_reducible refine ZaT ?_ ?_); · simp[-Int.ofNat_toNat,bV, *]; omega)
    | ((with_reducible refine ZaU ?_ ?_); · simp[-Int.ofNat_toNat,bV, *]; omega)
    | ((with_reducible refine ZnX ?_); intro e; (try rw[e]))
    | ((fail_if_success (have:v=true:=by assumption)); (fail_if_success (have:v=false:=by assumption)); (with_reducible refine ZkV v ?_ ?_) <;> (intro f; try (exfalso; simp_all; done)))
    | (intro _; simp[-Int.ofNat_toNat,YP,ZK, *]; done)
    | (intro _; simp only[pq,reduceCtorEq]; simp[-Int.ofNat_toNat,und,List.replicate,Nat.add_assoc,upd,Zjb,updB, *]; done))):P:=t R1 k1 ⟨rfl⟩ R2 k2 ⟨rfl⟩ R3 k3 ⟨rfl⟩
theorem auR {P:Prop}{R1 R2 R3:Prop}(k1:R1:=by exact trivial) (k2:R2:=by exact trivial) (k3:R3:=by exact trivial) (t:∀ X1:Prop,X1→Zbo X1 R1→∀ X2:Prop,X2→Zbo X2 R2→∀ X3:Prop,X3→Zbo X3 R3→P:=by
  intro X1 x1 e1 X2 x2 e2 X3 x3 e3;try simp only[upd,Zjb,updB,setB,List.foldl,List.set,und,List.replicate,List.cons_append,List.nil_append,reduceIte,Nat.lt_irrefl,Nat.reduceLT]
  repeat' (first
    | (with_reducible refine ZkS ?_)
    | (with_reducible refine ZkR (by assumption) ?_)
    | ((with_reducible refine Zlk ?_); intro v f f f)
    | (with_reducible refine ZjA (by assumption) ?_)
    | ((with_reducible refine Zl8 ?_); intro f; try simp only[List.length_replicate,List.length_set,List.length_take,List.length_drop,List.length_append] at f)
    | ((with_reducible refine ZkQ ?_); intro v f f; try simp only[Con.Q,kS,nf,nfs,Z5,ZhO,ZjP,E57,R57,E90,R90,Zkx,ZlZ,Zky,Zl0,ZhP,ZjQ,ZhQ,ZjR,ZiA,Zkz,ZiB,ZkA,E23_1,E171_2,E172_3,E49,R49,Zc9,Zfw,Zda,Zfx,E66,R66,E33,R33,E47,R47,List.length_replicate,List.length_set] at f)
    | ((with_reducible refine Zmb ?_); intro e; subst e; refine ZkU ?_)
    | ((with_reducible refine Zma ?_); intro v e; (try rw[e]))
    | (with_reducible refine ZiH ?_)
    | (with_reducible exact im_none)
    | (with_reducible exact ZjB)
    | ((with_reducible refine Zay ?_); (repeat (first | revert f | revert g | revert e | revert v)); exact ZgE e1 x1)
    | ((with_reducible refine Zay ?_); (repeat (first | revert f | revert g | revert e | revert v)); exact ZgE e2 x2)
    | ((with_reducible refine Zay ?_); (repeat (first | revert f | revert g | revert e | revert v)); exact ZgE e3 x3)
    | (with_reducible refine ZfO ?_)
    | (with_reducible refine Zci ?_)
    | (with_reducible refine Zbp ?_)
    | (with_reducible refine Zcj ?_)
    | (with_reducible refine Zdi ?_)
    | (with_reducible refine ZfP ?_)
    | (with_reducible refine Zhy ?_)
    | (with_reducible refine Zhz ?_)
    | (with_reducible refine Zja ?_)
    | ((with_reducible refine YL ?_ ?_); · simp[-Int.ofNat_toNat,bV, *]; done)
    | ((with_reducible refine YM ?_ ?_); · simp[-Int.ofNat_toNat,bV, *]; done)
    | (refine Zdh rfl rgR ?_)
    | (refine Zch rfl drR (by kernel_rfl) ?_)
    | ((with_reducible refine ZaT ?_ ?_); · simp[-Int.ofNat_toNat,bV, *]; done)
    | ((with_reducible refine ZaU ?_ ?_); · simp[-Int.ofNat_toNat,bV, *]; done)
    | (refine Zi9 rfl rgR ?_)
    | (refine Zhx rfl drR (by kernel_rfl) ?_)
    | (refine ZfQ ?_ (by simp only[pq,reduceCtorEq]; rfl))
    | (refine ZfQ ?_ (if_neg (by decide)))
    | (with_reducible refine Zfu (by assumption) ?_)
    | (with_reducible refine Zfu (of_eq_true (by assumption)) ?_)
    | (with_reducible refine Zll (by assumption) ?_)
    | (with_reducible refine ZdD (by assumption) ?_)
    | (with_reducible refine ZdD (of_eq_true (by assumption)) ?_)
    | (with_reducible refine ZjC (by assumption) ?_)
    | (with_reducible refine ZkT ?_)
    | (with_reducible refine ZjD ?_)
    | (with_reducible refine ZjE ?_)
    | ((with_reducible refine ZnW ?_ ?_) <;> (intro f; (try replace f:=Classical.not_not.1 f); have g:=nrm f; try replace f:=eqI f))
    | ((with_reducible refine Zl9 ?_ ?_) <;> (intro f; (try replace f:=Classical.not_not.1 f); have g:=nrm f; try replace f:=eqI f))
    | ((with_reducible refine YL ?_ ?_); · simp[-Int.ofNat_toNat,bV, *]; omega)
    | ((with_reducible refine YM ?_ ?_); · simp[-Int.ofNat_toNat,bV, *]; omega)
    | ((with_reducible refine ZaT ?_ ?_); · simp[-Int.ofNat_toNat,bV, *]; omega)
    | ((with_reducible refine ZaU ?_ ?_); · simp[-Int.ofNat_toNat,bV, *]; omega)
    | ((with_reducible refine ZnX ?_); intro e; (try rw[e]))
    | ((fail_if_success (have:v=true:=by assumption)); (fail_if_success (have:v=false:=by assumption)); (with_reducible refine ZkV v ?_ ?_) <;> (intro f; try (exfalso; simp_all; done)))
    | (intro _; simp[-Int.ofNat_toNat,YP,ZK, *]; done)
    | (intro _; simp only[pq,reduceCtorEq]; simp[-Int.ofNat_toNat,und,List.replicate,Nat.add_assoc,upd,Zjb,updB, *]; done))):P:=t R1 k1 ⟨rfl⟩ R2 k2 ⟨rfl⟩ R3 k3 ⟨rfl⟩
instance { y}:Fc (Llaw22_sane=some y) (K5.Q () y):=⟨K5.q0⟩
instance {a y}:Fc (Zhm a=some y) (K111.Q a y):=⟨K111.q1⟩
instance { y}:Fc (Lref03_Initial=some y) (K112.Q () y):=⟨K112.q0⟩
instance {a b y}:Fc (YT a b=some y) (K199.Q (a,b) y):=⟨K199.q2⟩
instance {a b y}:Fc (Y0 a b=some y) (K166.Q (a,b) y):=⟨K166.q2⟩
instance {a y}:Fc (ZcF a=some y) (K164.Q a y):=⟨K164.q1⟩
instance { y}:Fc (Lref03_constants=some y) (K165.Q () y):=⟨K165.q0⟩
instance {a b y}:Fc (XI a b=some y) (G113 (ZhO (a,b))=some (ZjP (a,b) y)):=⟨Zs2⟩
instance {a y}:Fc (Y9 a=some y) (G57 (E57 a)=some (R57 a y)):=⟨ZrW⟩
instance {a y}:Fc (ZaI a=some y) (K25.Q a y):=⟨K25.q1⟩
instance {a b y}:Fc (Yg a b=some y) (K114.Q (a,b) y):=⟨K114.q2⟩
instance {a b y}:Fc (Yh a b=some y) (K115.Q (a,b) y):=⟨K115.q2⟩
instance {a b y}:Fc (Z2 a b=some y) (K58.Q (a,b) y):=⟨K58.q2⟩
instance {a b y}:Fc (YC a b=some y) (K59.Q (a,b) y):=⟨K59.q2⟩
instance {a y}:Fc (ZdL a=some y) (K147.Q a y):=⟨K147.q1⟩
instance {a b y}:Fc (YQ a b=some y) (K149.Q (a,b) y):=⟨K149.q2⟩
instance {a b y}:Fc (XU a b=some y) (K148.Q (a,b) y):=⟨K148.q2⟩
instance {a b y}:Fc (ZbS a b=some y) (K212.Q (a,b) y):=⟨K212.q2⟩
instance {a y}:Fc (Zew a=some y) (K183.Q a y):=⟨K183.q1⟩
instance {a b y}:Fc (ZaG a b=some y) (K139.Q (a,b) y):=⟨K139.q2⟩
instance {a y}:Fc (Zaz a=some y) (K136.Q a y):=⟨K136.q1⟩
instance {a y}:Fc (Zgo a=some y) (K140.Q a y):=⟨K140.q1⟩
instance {a y}:Fc (Xt a=some y) (K88.Q a y):=⟨K88.q1⟩
instance {a b y}:Fc (Zgp a b=some y) (K213.Q (a,b) y):=⟨K213.q2⟩
instance {a y}:Fc (ZbG a=some y) (K184.Q a y):=⟨K184.q1⟩
instance {a y}:Fc (Zdj a=some y) (K141.Q a y):=⟨K141.q1⟩
instance {a y}:Fc (Zcc a=some y) (K84.Q a y):=⟨K84.q1⟩
instance {a y}:Fc (Zfz a=some y) (K80.Q a y):=⟨K80.q1⟩
instance {a y}:Fc (Zbc a=some y) (K93.Q a y):=⟨K93.q1⟩
instance {a y}:Fc (ZiG a=some y) (K189.Q a y):=⟨K189.q1⟩
instance {a b y}:Fc (Zgt a b=some y) (K150.Q (a,b) y):=⟨K150.q2⟩
instance {a b c y}:Fc (YN a b c=some y) (G90 (E90 (a,b,c))=some (R90 (a,b,c) y)):=⟨ZvH⟩
instance { y}:Fc (Lmade_Null=some y) (K151.Q () y):=⟨K151.q0⟩
instance {a b c y}:Fc (Zfb a b c=some y) (K91.Q (a,b,c) y):=⟨K91.q3⟩
instance {a b y}:Fc (Zbg a b=some y) (K162.Q (a,b) y):=⟨K162.q2⟩
instance {a b y}:Fc (Zbh a b=some y) (K108.Q (a,b) y):=⟨K108.q2⟩
instance {a y}:Fc (Zca a=some y) (K163.Q a y):=⟨K163.q1⟩
instance {a y}:Fc (Zas a=some y) (K194.Q a y):=⟨K194.q1⟩
instance {a y}:Fc (Zcb a=some y) (K197.Q a y):=⟨K197.q1⟩
instance {a b c y}:Fc (Xl a b c=some y) (G221 (Zkx (a,b,c))=some (ZlZ (a,b,c) y)):=⟨Zx6⟩
instance {a b y}:Fc (ZfK a b=some y) (K222.Q (a,b) y):=⟨K222.q2⟩
instance {a b y}:Fc (ZfL a b=some y) (K198.Q (a,b) y):=⟨K198.q2⟩
instance {a y}:Fc (ZbF a=some y) (K159.Q a y):=⟨K159.q1⟩
instance {a b y}:Fc (Xk a b=some y) (K160.Q (a,b) y):=⟨K160.q2⟩
instance {a y}:Fc (Xp a=some y) (K110.Q a y):=⟨K110.q1⟩
instance {a b y}:Fc (Zb1 a b=some y) (K92.Q (a,b) y):=⟨K92.q2⟩
instance {a y}:Fc (XB a=some y) (K26.Q a y):=⟨K26.q1⟩
instance {a y}:Fc (ZaB a=some y) (K9.Q a y):=⟨K9.q1⟩
instance {a b y}:Fc (XZ a b=some y) (K173.Q (a,b) y):=⟨K173.q2⟩
instance {a b y}:Fc (Zhs a b=some y) (K193.Q (a,b) y):=⟨K193.q2⟩
instance {a b c y}:Fc (ZaR a b c=some y) (G238 (Zky (a,b,c))=some (Zl0 (a,b,c) y)):=⟨Zx7⟩
instance {a b y}:Fc (Zhp a b=some y) (K223.Q (a,b) y):=⟨K223.q2⟩
instance {a b c y}:Fc (Zht a b c=some y) (K195.Q (a,b,c) y):=⟨K195.q3⟩
instance {a y}:Fc (Zdz a=some y) (K196.Q a y):=⟨K196.q1⟩
instance {a b c d y}:Fc (Zep a b c d=some y) (K158.Q (a,b,c,d) y):=⟨K158.q4⟩
instance {a b y}:Fc (Zd4 a b=some y) (K104.Q (a,b) y):=⟨K104.q2⟩
instance {a y}:Fc (ZaS a=some y) (K161.Q a y):=⟨K161.q1⟩
instance {a b y}:Fc (ZdV a b=some y) (K105.Q (a,b) y):=⟨K105.q2⟩
instance {a y}:Fc (ZcX a=some y) (K106.Q a y):=⟨K106.q1⟩
instance {a b c d y}:Fc (Zgu a b c d=some y) (K94.Q (a,b,c,d) y):=⟨K94.q4⟩
instance {a y}:Fc (Zf7 a=some y) (K95.Q a y):=⟨K95.q1⟩
instance {a b c d y}:Fc (Zfk a b c d=some y) (K50.Q (a,b,c,d) y):=⟨K50.q4⟩
instance {a b y}:Fc (Zem a b=some y) (K182.Q (a,b) y):=⟨K182.q2⟩
instance {a y}:Fc (Zen a=some y) (K137.Q a y):=⟨K137.q1⟩
instance {a y}:Fc (Zgq a=some y) (K77.Q a y):=⟨K77.q1⟩
instance {a y}:Fc (ZeM a=some y) (K138.Q a y):=⟨K138.q1⟩
instance {a y}:Fc (Zaq a=some y) (K78.Q a y):=⟨K78.q1⟩
instance {a y}:Fc (ZdO a=some y) (K79.Q a y):=⟨K79.q1⟩
instance {a b y}:Fc (Zbj a b=some y) (K81.Q (a,b) y):=⟨K81.q2⟩
instance {a b y}:Fc (ZaZ a b=some y) (K82.Q (a,b) y):=⟨K82.q2⟩
instance {a y}:Fc (Zct a=some y) (K83.Q a y):=⟨K83.q1⟩
instance {a y}:Fc (ZaC a=some y) (K39.Q a y):=⟨K39.q1⟩
instance {a b y}:Fc (Xc a b=some y) (G190 (ZhP (a,b))=some (ZjQ (a,b) y)):=⟨Zs3⟩
instance {a y}:Fc (ZdZ a=some y) (K152.Q a y):=⟨K152.q1⟩
instance {a b y}:Fc (ZaD a b=some y) (G153 (ZhQ (a,b))=some (ZjR (a,b) y)):=⟨Zs4⟩
instance {a b c y}:Fc (Zfe a b c=some y) (K96.Q (a,b,c) y):=⟨K96.q3⟩
instance {a b y}:Fc (Zdk a b=some y) (K100.Q (a,b) y):=⟨K100.q2⟩
instance {a y}:Fc (Zbm a=some y) (K154.Q a y):=⟨K154.q1⟩
instance {a b c d y}:Fc (Zff a b c d=some y) (K97.Q (a,b,c,d) y):=⟨K97.q4⟩
instance {a b y}:Fc (Zhl a b=some y) (K155.Q (a,b) y):=⟨K155.q2⟩
instance {a b y}:Fc (ZaJ a b=some y) (G218 (ZiA (a,b))=some (Zkz (a,b) y)):=⟨Zx8⟩
instance {a b c y}:Fc (ZdA a b c=some y) (K191.Q (a,b,c) y):=⟨K191.q3⟩
instance {a b c y}:Fc (Za1 a b c=some y) (K192.Q (a,b,c) y):=⟨K192.q3⟩
instance {a b c d y}:Fc (Zfl a b c d=some y) (K156.Q (a,b,c,d) y):=⟨K156.q4⟩
instance {a b c y}:Fc (Zfm a b c=some y) (K98.Q (a,b,c) y):=⟨K98.q3⟩
instance {a b y}:Fc (Zdw a b=some y) (K99.Q (a,b) y):=⟨K99.q2⟩
instance {a b y}:Fc (Za0 a b=some y) (K103.Q (a,b) y):=⟨K103.q2⟩
instance {a b y}:Fc (Zcd a b=some y) (G157 (ZiB (a,b))=some (ZkA (a,b) y)):=⟨Zx9⟩
instance {a b c y}:Fc (Zhr a b c=some y) (K101.Q (a,b,c) y):=⟨K101.q3⟩
instance {a y}:Fc (Zd0 a=some y) (K102.Q a y):=⟨K102.q1⟩
instance {a b c y}:Fc (ZcK a b c=some y) (K51.Q (a,b,c) y):=⟨K51.q3⟩
instance {a b y}:Fc (Zgr a b=some y) (K107.Q (a,b) y):=⟨K107.q2⟩
instance {a b c y}:Fc (Zb3 a b c=some y) (K53.Q (a,b,c) y):=⟨K53.q3⟩
instance {a b c d y}:Fc (ZcY a b c d=some y) (K52.Q (a,b,c,d) y):=⟨K52.q4⟩
instance {a y}:Fc (Zi0 a=some y) (K109.Q a y):=⟨K109.q1⟩
instance {a y}:Fc (Zfg a=some y) (K54.Q a y):=⟨K54.q1⟩
instance {a y}:Fc (Zfh a=some y) (K55.Q a y):=⟨K55.q1⟩
instance {a y}:Fc (Zfi a=some y) (K56.Q a y):=⟨K56.q1⟩
instance {a y}:Fc (Zgs a=some y) (K24.Q a y):=⟨K24.q1⟩
instance {a b y}:Fc (Zgv a b=some y) (K23_1.Q (a,b) y):=⟨K23_1.q2⟩
instance {a b y}:Fc (Zfn a b=some y) (K6.Q (a,b) y):=⟨K6.q2⟩
instance {a b y}:Fc (Zhu a b=some y) (K7.Q (a,b) y):=⟨K7.q2⟩
instance {a b y}:Fc (YJ a b=some y) (K116.Q (a,b) y):=⟨K116.q2⟩
instance {a b y}:Fc (Xo a b=some y) (K167.Q (a,b) y):=⟨K167.q2⟩
instance {a b y}:Fc (ZbR a b=some y) (K117.Q (a,b) y):=⟨K117.q2⟩
instance {a b y}:Fc (Z9 a b=some y) (K118.Q (a,b) y):=⟨K118.q2⟩
instance {a b y}:Fc (ZaL a b=some y) (K119.Q (a,b) y):=⟨K119.q2⟩
instance {a b y}:Fc (YB a b=some y) (K60.Q (a,b) y):=⟨K60.q2⟩
instance {a b y}:Fc (Xv a b=some y) (K120.Q (a,b) y):=⟨K120.q2⟩
instance {a y}:Fc (XA a=some y) (K61.Q a y):=⟨K61.q1⟩
instance {a y}:Fc (Zfy a=some y) (K68.Q a y):=⟨K68.q1⟩
instance {a b y}:Fc (Xf a b=some y) (K71.Q (a,b) y):=⟨K71.q2⟩
instance {a b y}:Fc (ZfG a b=some y) (K122.Q (a,b) y):=⟨K122.q2⟩
instance {a y}:Fc (Zil a=some y) (K121.Q a y):=⟨K121.q1⟩
instance {a b y}:Fc (Zdf a b=some y) (K62.Q (a,b) y):=⟨K62.q2⟩
instance {a y}:Fc (ZcW a=some y) (K27.Q a y):=⟨K27.q1⟩
instance {a y}:Fc (Zcs a=some y) (K63.Q a y):=⟨K63.q1⟩
instance {a y}:Fc (Zjt a=some y) (K28.Q a y):=⟨K28.q1⟩
instance {a y}:Fc (Zjq a=some y) (K129.Q a y):=⟨K129.q1⟩
instance {a y}:Fc (Zjr a=some y) (K130.Q a y):=⟨K130.q1⟩
instance {a b y}:Fc (XX a b=some y) (K179.Q (a,b) y):=⟨K179.q2⟩
instance {a y}:Fc (Zeh a=some y) (K178.Q a y):=⟨K178.q1⟩
instance {a b y}:Fc (Zei a b=some y) (K131.Q (a,b) y):=⟨K131.q2⟩
instance {a y}:Fc (ZgX a=some y) (K69.Q a y):=⟨K69.q1⟩
instance {a y}:Fc (Zb9 a=some y) (K32.Q a y):=⟨K32.q1⟩
instance {a y}:Fc (ZeO a=some y) (K29.Q a y):=⟨K29.q1⟩
instance {a y}:Fc (Zad a=some y) (K200.Q a y):=⟨K200.q1⟩
instance {a b y}:Fc (Y6 a b=some y) (K168.Q (a,b) y):=⟨K168.q2⟩
instance {a y}:Fc (Yc a=some y) (K123.Q a y):=⟨K123.q1⟩
instance {a y}:Fc (Zgl a=some y) (K169.Q a y):=⟨K169.q1⟩
instance {a y}:Fc (Zgm a=some y) (K170.Q a y):=⟨K170.q1⟩
instance {a b y}:Fc (XY a b=some y) (K171_2.Q (a,b) y):=⟨K171_2.q2⟩
instance {a b c y}:Fc (Zaw a b c=some y) (K172_3.Q (a,b,c) y):=⟨K172_3.q3⟩
instance {a b c y}:Fc (ZaQ a b c=some y) (K124.Q (a,b,c) y):=⟨K124.q3⟩
instance {a b y}:Fc (ZbY a b=some y) (K64.Q (a,b) y):=⟨K64.q2⟩
instance {a b y}:Fc (ZiV a b=some y) (K125.Q (a,b) y):=⟨K125.q2⟩
instance {a b y}:Fc (ZY a b=some y) (K201.Q (a,b) y):=⟨K201.q2⟩
instance {a b y}:Fc (Zgn a b=some y) (K175.Q (a,b) y):=⟨K175.q2⟩
instance {a b y}:Fc (ZeN a b=some y) (K174.Q (a,b) y):=⟨K174.q2⟩
instance {a b y}:Fc (Zjs a b=some y) (K126.Q (a,b) y):=⟨K126.q2⟩
instance {a y}:Fc (Yz a=some y) (G49 (E49 a)=some (R49 a y)):=⟨ZyV⟩
instance {a y}:Fc (Zds a=some y) (K177.Q a y):=⟨K177.q1⟩
instance {a b c y}:Fc (Zy a b c=some y) (G202_4 (Zc9 (a,b,c))=some (Zfw (a,b,c) y)):=⟨Zqw⟩
instance {a b c d y}:Fc (YF a b c d=some y) (G176_5 (Zda (a,b,c,d))=some (Zfx (a,b,c,d) y)):=⟨ZvI⟩
instance {a y}:Fc (Ys a=some y) (K127_6.Q a y):=⟨K127_6.q1⟩
instance {a b c d y}:Fc (ZcJ a b c d=some y) (K65.Q (a,b,c,d) y):=⟨K65.q4⟩
instance {a b c d y}:Fc (Zdy a b c d=some y) (K30.Q (a,b,c,d) y):=⟨K30.q4⟩
instance {a y}:Fc (Yy a=some y) (G66 (E66 a)=some (R66 a y)):=⟨ZyW⟩
instance {a y}:Fc (Zlf a=some y) (K128.Q a y):=⟨K128.q1⟩
instance {a y}:Fc (Zcp a=some y) (K67.Q a y):=⟨K67.q1⟩
instance {a y}:Fc (ZbZ a=some y) (K31.Q a y):=⟨K31.q1⟩
instance {a y}:Fc (Zce a=some y) (K10.Q a y):=⟨K10.q1⟩
instance {a y}:Fc (Zdu a=some y) (K34.Q a y):=⟨K34.q1⟩
instance {a y}:Fc (ZdT a=some y) (K12.Q a y):=⟨K12.q1⟩
instance {a y}:Fc (ZX a=some y) (G33 (E33 a)=some (R33 a y)):=⟨ZyY⟩
instance {a b y}:Fc (Zdt a b=some y) (K11.Q (a,b) y):=⟨K11.q2⟩
instance {a y}:Fc (YW a=some y) (K45.Q a y):=⟨K45.q1⟩
instance {a b y}:Fc (Xm a b=some y) (K46.Q (a,b) y):=⟨K46.q2⟩
instance {a y}:Fc (YU a=some y) (K35.Q a y):=⟨K35.q1⟩
instance {a y}:Fc (ZiF a=some y) (K132.Q a y):=⟨K132.q1⟩
instance {a y}:Fc (ZgW a=some y) (K72.Q a y):=⟨K72.q1⟩
instance {a b y}:Fc (ZfI a b=some y) (K180.Q (a,b) y):=⟨K180.q2⟩
instance {a y}:Fc (Zl6 a=some y) (K133.Q a y):=⟨K133.q1⟩
instance {a y}:Fc (Zfo a=some y) (K73.Q a y):=⟨K73.q1⟩
instance {a y}:Fc (Zjz a=some y) (K134.Q a y):=⟨K134.q1⟩
instance {a b y}:Fc (Zfp a b=some y) (K211.Q (a,b) y):=⟨K211.q2⟩
instance {a y}:Fc (ZdB a=some y) (K181.Q a y):=⟨K181.q1⟩
instance {a y}:Fc (Zfq a=some y) (K135.Q a y):=⟨K135.q1⟩
instance {a y}:Fc (Zgw a=some y) (K74.Q a y):=⟨K74.q1⟩
instance {a y}:Fc (Zfr a=some y) (K36.Q a y):=⟨K36.q1⟩
instance {a b y}:Fc (ZcP a b=some y) (K37.Q (a,b) y):=⟨K37.q2⟩
instance {a b c y}:Fc (ZdC a b c=some y) (K13.Q (a,b,c) y):=⟨K13.q3⟩
instance {a b y}:Fc (Zek a b=some y) (K41.Q (a,b) y):=⟨K41.q2⟩
instance {a b y}:Fc (Zfs a b=some y) (K16.Q (a,b) y):=⟨K16.q2⟩
instance {a b c d y}:Fc (Zft a b c d=some y) (K44.Q (a,b,c,d) y):=⟨K44.q4⟩
instance {a b c d e f y}:Fc (ZcZ a b c d e f=some y) (K17.Q (a,b,c,d,e,f) y):=⟨K17.q6⟩
instance {a y}:Fc (Zu a=some y) (G47 (E47 a)=some (R47 a y)):=⟨ZvJ⟩
instance {a b c d y}:Fc (Zaf a b c d=some y) (K18.Q (a,b,c,d) y):=⟨K18.q4⟩
instance {a y}:Fc (Xq a=some y) (K19.Q a y):=⟨K19.q1⟩
instance {a y}:Fc (Zag a=some y) (K48.Q a y):=⟨K48.q1⟩
instance {a b y}:Fc (XN a b=some y) (K20.Q (a,b) y):=⟨K20.q2⟩
instance {a b y}:Fc (Zau a b=some y) (K21.Q (a,b) y):=⟨K21.q2⟩
end Go.Proofs.YtbppknpnmjhjpaaGreatDoor
