import Derived.Test.YtcfpmbefhfbdjaaGreatDoorLcG3
import Derived.Test.YtcfpmbefhfbdjaaGreatDoorLcG1
import Derived.Test.YtcfpmbefhfbdjaaGreatDoorLcG1
import Derived.Test.YtcfpmbefhfbdjaaGreatDoorLcG3
import Derived.Test.YtcfpmbefhfbdjaaGreatDoorTt
namespace Go.Proofs.YtcfpmbefhfbdjaaGreatDoor
open Go.RowKit
open Go.Av
open Go.Lc
set_option maxRecDepth 100000
set_option linter.unusedSimpArgs false
set_option linter.unusedVariables false
attribute [simp] tt1 tt2 tt3 tt4 tt5 tt6 tt7 tt8 tt9 tt10 tt11 tt12 tt13 tt14 tt15 tt16 tt17 tt18 tt19 tt21 tt22 tt23 tt24 tt25 tt26 tt27 tt28 tt29 tt31 tt32 tt33 tt34 tt35 tt36 tt37 tt38 tt39 tt41 tt42 tt43 tt44 tt45 tt46 tt47 tt48 tt49 tt50 tt51 tt52 tt53 tt54 tt55 tt56 tt57 tt58 tt59 tt60 tt61 tt62 tt63 tt64 tt65 tt66 tt68 tt72 tt73 tt74 tt75 tt76 tt77 tt78 tt79 tt80 tt81 tt82 tt83 tt85 tt90 tt91 tt92 tt93 tt94 tt95 tt96 tt98 tt99 tt109 tt110 tt111 tt112 tt115 tt117 tt119 tt120 tt123 tt124 tt125 tt126 tt132 tt134 tt136 tt150 tt151 tt161 tt162 tt169 tt170 tt178 tt180 tt204 tt208 tt209 tt212 tt228 tt229 tt240 tt251 tt256 tt266 tt272 tt273 tt274 tt276 tt277 tt286 tt309 tt310 tt311 tt312 tt313 tt315 tt316 tt317 tt318 tt319 tt320 tt321 tt322 ti1 ti2 ti3 ti4 ti5 ti6 ti7 ti8 ti9 ti10 ti11 ti12 ti13 ti14 ti15 ti16 ti17 ti18 ti19 ti21 ti22 ti23 ti24 ti25 ti26 ti27 ti28 ti29 ti31 ti32 ti33 ti34 ti35 ti36 ti37 ti38 ti39 ti41 ti42 ti43 ti44 ti45 ti46 ti47 ti48 ti49 ti50 ti51 ti52 ti53 ti54 ti55 ti56 ti57 ti58 ti59 ti60 ti61 ti62 ti63 ti64 ti65 ti66 ti68 ti72 ti73 ti74 ti75 ti76 ti77 ti78 ti79 ti80 ti81 ti82 ti83 ti85 ti90 ti91 ti92 ti93 ti94 ti95 ti96 ti98 ti99 ti109 ti110 ti111 ti112 ti115 ti117 ti119 ti120 ti123 ti124 ti125 ti126 ti132 ti134 ti136 ti150 ti151 ti161 ti162 ti169 ti170 ti178 ti180 ti204 ti208 ti209 ti212 ti228 ti229 ti240 ti251 ti256 ti266 ti272 ti273 ti274 ti276 ti277 ti286 ti309 ti310 ti311 ti312 ti313 ti315 ti316 ti317 ti318 ti319 ti320 ti321 ti322
@[simp] theorem ZxS {n:Nat}{k:IntKind}{l:List (Arr n)}:l.any ((fun l=>l.any Cell.isSl) ∘ arC k)=false:=by simp[arC,ints]
@[simp↓] theorem Zxz {k:IntKind}(m:List Int) (n:Nat):(∀ l,l∈List.drop n (Zg k m)→l.length=1)=True:=eq_true fun l h=>intsR_all l (List.mem_of_mem_drop h)
@[simp↓] theorem ZxA {k:IntKind}(m:List Int) (n:Nat):(∀ l,l∈List.take n (Zg k m)→l.length=1)=True:=eq_true fun l h=>intsR_all l (List.mem_of_mem_take h)
@[simp↓] theorem ZxB {k:IntKind}(m:List Int):(∀ l,l∈(Zg k m).tail→l.length=1)=True:=eq_true fun l h=>intsR_all l (List.mem_of_mem_tail h)
@[simp↓] theorem Zw3 {k:IntKind}(m:List Int) (n:Nat):(∀ l,l∈List.take n (Zg k m).tail→l.length=1)=True:=eq_true fun l h=>intsR_all l (List.mem_of_mem_tail (List.mem_of_mem_take h))
@[simp↓] theorem Zw4 {k:IntKind}(m:List Int) (n:Nat):(∀ l,l∈List.drop n (Zg k m).tail→l.length=1)=True:=eq_true fun l h=>intsR_all l (List.mem_of_mem_tail (List.mem_of_mem_drop h))
@[simp] theorem arC_z8:arC .u64 (zA 8)=arC .u64 (zA 4)++arC .u64 (zA 4):=rfl
@[simp] theorem arC_z12:arC .u64 (zA 12)=arC .u64 (zA 4)++(arC .u64 (zA 4)++arC .u64 (zA 4)):=rfl
theorem az64:arC .u8 (zA 64)=arC .u8 (zA 32)++arC .u8 (zA 32):=rfl
theorem bz4:List.map Zc.cell (zr 4 Zc.nil)=[.slice .nil [],.slice .nil [],.slice .nil [],.slice .nil []]:=rfl
theorem mzD (p:Arr 8):Zy (arC .u64 (zA 4)) 0 (List.drop 4 (Zg .u64 p.l)).flatten=arC .u64 ((zA 4).over (p.l.drop 4)):=by
  have h8:=p.hl
  have e:List.take (min (p.l.drop 4).length 4) (Zg .u64 (p.l.drop 4))=List.drop 4 (Zg .u64 p.l):=by
    have e1:Zg .u64 (p.l.drop 4)=List.drop 4 (Zg .u64 p.l):=by unfold Zg; rw[List.map_drop]
    rw[e1,List.take_of_length_le (by unfold Zg; rw[List.length_drop,List.length_drop,List.length_map]; omega)]
  rw[← e];exact Zm1
theorem mzT (p:Arr 8):Zy (arC .u64 (zA 4)) 0 (List.take 4 (Zg .u64 p.l)).flatten=arC .u64 ((zA 4).over (p.l.take 4)):=by
  have h8:=p.hl
  have e:List.take (min (p.l.take 4).length 4) (Zg .u64 (p.l.take 4))=List.take 4 (Zg .u64 p.l):=by
    have e1:Zg .u64 (p.l.take 4)=List.take 4 (Zg .u64 p.l):=by unfold Zg; rw[List.map_take]
    rw[e1,List.take_of_length_le (by unfold Zg; rw[List.length_take,List.length_take,List.length_map]; omega)]
  rw[← e];exact Zm1
theorem Zsh (a:Nat):(1+a≤a+1)=True:=eq_true (by omega)
@[simp] def XX (x:(List Int)):List Cell:=[.slice .no (Zg .u8 x)]
instance:EnC XX 1:=enC
@[simp] def Z8 (x:Tapi_FilterChain):List Cell:=[.slice .no (List.map (arC .u8) x.1),.slice .no (List.map (arC .u8) x.2)]
instance:EnC Z8 2:=enC
@[simp] def ZgR (x:(List (Arr 32))):List Cell:=[.slice .no (List.map (arC .u8) x)]
instance:EnC ZgR 1:=enC
@[simp] def ZaL (x:Tapi_Filter):List Cell:=[.v (.int .i64 x.1),.slice .no (Zg .u8 x.2)]
instance:EnC ZaL 2:=enC
@[simp] def Zr (x:Tapi_Coin):List Cell:=(arC .u8 x.1.1)++((.v (.int .u32 x.1.2)) :: ((.v (.int .i64 x.2.1.1)) :: ((.slice .no (Zg .u8 x.2.1.2)) :: ((.v (.int .i64 x.2.2.1)) :: ((.v (.bool x.2.2.2)) :: [])))))
instance:EnC Zr 37:=enC
@[simp] def Za1 (x:Tapi_Input):List Cell:=(arC .u8 x.1.1)++((.v (.int .u32 x.1.2)) :: ((.v (.int .u32 x.2.1)) :: ((.slice .no (List.map XX x.2.2)) :: [])))
instance:EnC Za1 35:=enC
@[simp] def Xh (x:Tapi_Output):List Cell:=[.v (.int .i64 x.1),.slice .no (Zg .u8 x.2)]
instance:EnC Xh 2:=enC
@[simp] def eapi_OutPoint (x:Tapi_OutPoint):List Cell:=(arC .u8 x.1)++((.v (.int .u32 x.2)) :: [])
instance:EnC eapi_OutPoint 33:=enC
instance:EnP eapi_OutPoint:=enP
@[simp] def ZX (x:Tapi_Tx):List Cell:=[.v (.int .u32 x.1),.slice .no (List.map Za1 x.2.1),.slice .no (List.map Xh x.2.2.1),.v (.int .u32 x.2.2.2)]
instance:EnC ZX 4:=enC
@[simp] def eapi_Checkpoint (x:Tapi_Checkpoint):List Cell:=(.v (.int .i64 x.1)) :: (arC .u8 x.2)
instance:EnC eapi_Checkpoint 33:=enC
instance:EnP eapi_Checkpoint:=enP
@[simp] def YC (x:Tapi_Params):List Cell:=(.v (.int .u32 x.1.1)) :: ((arC .u8 x.1.2.1)++((arC .u8 x.1.2.2.1)++((.v (.int .u32 x.1.2.2.2.1)) :: ((.v (.int .u32 x.1.2.2.2.2.1)) :: ((.v (.int .u32 x.1.2.2.2.2.2)) :: ((arC .u64 x.2.1)++((.v (.int .i64 x.2.2.1)) :: ((.v (.int .u32 x.2.2.2.1)) :: ((.v (.int .u32 x.2.2.2.2.1)) :: ((.v (.int .u32 x.2.2.2.2.2.1)) :: ((.slice .no (List.map eapi_Checkpoint x.2.2.2.2.2.2.1)) :: ((.v (.int .i64 x.2.2.2.2.2.2.2.1)) :: ((.v (.int .i64 x.2.2.2.2.2.2.2.2.1)) :: ((.v (.int .i64 x.2.2.2.2.2.2.2.2.2)) :: []))))))))))))))
instance:EnC YC 80:=enC
@[simp] def eapi_Header (x:Tapi_Header):List Cell:=(.v (.int .u32 x.1)) :: ((arC .u8 x.2.1)++((arC .u8 x.2.2.1)++((.v (.int .u32 x.2.2.2.1)) :: ((.v (.int .u32 x.2.2.2.2.1)) :: ((.v (.int .u32 x.2.2.2.2.2)) :: [])))))
instance:EnC eapi_Header 68:=enC
instance:EnP eapi_Header:=enP
@[simp] def YI (x:Tapi_Context):List Cell:=(.v (.int .i64 x.1)) :: ((arC .u8 x.2.1)++((.v (.int .u32 x.2.2.1)) :: ((.v (.int .u32 x.2.2.2.1)) :: ((.slice .no (Zg .u32 x.2.2.2.2)) :: []))))
instance:EnC YI 36:=enC
@[simp] def Xs (x:Tapi_Ledger):List Cell:=(.v (.int .i64 x.1)) :: ((arC .u8 x.2.1)++((.slice .no (List.map Zr x.2.2)) :: []))
instance:EnC Xs 34:=enC
@[simp] def YV (x:Tapi_Block):List Cell:=(.v (.int .u32 x.1.1)) :: ((arC .u8 x.1.2.1)++((arC .u8 x.1.2.2.1)++((.v (.int .u32 x.1.2.2.2.1)) :: ((.v (.int .u32 x.1.2.2.2.2.1)) :: ((.v (.int .u32 x.1.2.2.2.2.2)) :: ((.slice .no (List.map ZX x.2)) :: []))))))
instance:EnC YV 69:=enC
@[simp] def eapi_Env (x:Tapi_Env):List Cell:=(arC .u8 x.1)++((.v (.int .i64 x.2.1)) :: ((.v (.int .i64 x.2.2)) :: []))
instance:EnC eapi_Env 34:=enC
instance:EnP eapi_Env:=enP
@[simp] def Zey (x:(List Tapi_Coin)):List Cell:=[.slice .no (List.map Zr x)]
instance:EnC Zey 1:=enC
@[simp] def Zhx (x:Tapi_Bits):List Cell:=[.slice .no (Zg .u8 x.1),.v (.int .i64 x.2)]
instance:EnC Zhx 2:=enC
theorem nfs:(∀ x:(List Int),XX x=[.slice .no (Zg .u8 x)])∧(∀ x:Tapi_FilterChain,Z8 x=[.slice .no (List.map (arC .u8) x.1),.slice .no (List.map (arC .u8) x.2)])∧(∀ x:(List (Arr 32)),ZgR x=[.slice .no (List.map (arC .u8) x)])∧(∀ x:Tapi_Filter,ZaL x=[.v (.int .i64 x.1),.slice .no (Zg .u8 x.2)])∧(∀ x:Tapi_Coin,Zr x=(arC .u8 x.1.1)++((.v (.int .u32 x.1.2)) :: ((.v (.int .i64 x.2.1.1)) :: ((.slice .no (Zg .u8 x.2.1.2)) :: ((.v (.int .i64 x.2.2.1)) :: ((.v (.bool x.2.2.2)) :: []))))))∧(∀ x:Tapi_Input,Za1 x=(arC .u8 x.1.1)++((.v (.int .u32 x.1.2)) :: ((.v (.int .u32 x.2.1)) :: ((.slice .no (List.map XX x.2.2)) :: []))))∧(∀ x:Tapi_Output,Xh x=[.v (.int .i64 x.1),.slice .no (Zg .u8 x.2)])∧(∀ x:Tapi_OutPoint,eapi_OutPoint x=(arC .u8 x.1)++((.v (.int .u32 x.2)) :: []))∧(∀ x:Tapi_Tx,ZX x=[.v (.int .u32 x.1),.slice .no (List.map Za1 x.2.1),.slice .no (List.map Xh x.2.2.1),.v (.int .u32 x.2.2.2)])∧(∀ x:Tapi_Checkpoint,eapi_Checkpoint x=(.v (.int .i64 x.1)) :: (arC .u8 x.2))∧(∀ x:Tapi_Params,YC x=(.v (.int .u32 x.1.1)) :: ((arC .u8 x.1.2.1)++((arC .u8 x.1.2.2.1)++((.v (.int .u32 x.1.2.2.2.1)) :: ((.v (.int .u32 x.1.2.2.2.2.1)) :: ((.v (.int .u32 x.1.2.2.2.2.2)) :: ((arC .u64 x.2.1)++((.v (.int .i64 x.2.2.1)) :: ((.v (.int .u32 x.2.2.2.1)) :: ((.v (.int .u32 x.2.2.2.2.1)) :: ((.v (.int .u32 x.2.2.2.2.2.1)) :: ((.slice .no (List.map eapi_Checkpoint x.2.2.2.2.2.2.1)) :: ((.v (.int .i64 x.2.2.2.2.2.2.2.1)) :: ((.v (.int .i64 x.2.2.2.2.2.2.2.2.1)) :: ((.v (.int .i64 x.2.2.2.2.2.2.2.2.2)) :: [])))))))))))))))∧(∀ x:Tapi_Header,eapi_Header x=(.v (.int .u32 x.1)) :: ((arC .u8 x.2.1)++((arC .u8 x.2.2.1)++((.v (.int .u32 x.2.2.2.1)) :: ((.v (.int .u32 x.2.2.2.2.1)) :: ((.v (.int .u32 x.2.2.2.2.2)) :: []))))))∧(∀ x:Tapi_Context,YI x=(.v (.int .i64 x.1)) :: ((arC .u8 x.2.1)++((.v (.int .u32 x.2.2.1)) :: ((.v (.int .u32 x.2.2.2.1)) :: ((.slice .no (Zg .u32 x.2.2.2.2)) :: [])))))∧(∀ x:Tapi_Ledger,Xs x=(.v (.int .i64 x.1)) :: ((arC .u8 x.2.1)++((.slice .no (List.map Zr x.2.2)) :: [])))∧(∀ x:Tapi_Block,YV x=(.v (.int .u32 x.1.1)) :: ((arC .u8 x.1.2.1)++((arC .u8 x.1.2.2.1)++((.v (.int .u32 x.1.2.2.2.1)) :: ((.v (.int .u32 x.1.2.2.2.2.1)) :: ((.v (.int .u32 x.1.2.2.2.2.2)) :: ((.slice .no (List.map ZX x.2)) :: [])))))))∧(∀ x:Tapi_Env,eapi_Env x=(arC .u8 x.1)++((.v (.int .i64 x.2.1)) :: ((.v (.int .i64 x.2.2)) :: [])))∧(∀ x:(List Tapi_Coin),Zey x=[.slice .no (List.map Zr x)])∧(∀ x:Tapi_Bits,Zhx x=[.slice .no (Zg .u8 x.1),.v (.int .i64 x.2)]):=⟨fun _=>rfl,fun _=>rfl,fun _=>rfl,fun _=>rfl,fun _=>rfl,fun _=>rfl,fun _=>rfl,fun _=>rfl,fun _=>rfl,fun _=>rfl,fun _=>rfl,fun _=>rfl,fun _=>rfl,fun _=>rfl,fun _=>rfl,fun _=>rfl,fun _=>rfl,fun _=>rfl⟩
@[simp] def Zke (x:ByteArray×Bool):List Cell:=([.v (.string x.1)])++([.v (.bool x.2)])
theorem eM_Str_B_he:∀ a b:ByteArray,kEq ([.v (.string a)]) ([.v (.string b)])=decide (a=b):=by
  rintro a b
  rw[Bool.eq_iff_iff];simp[kEq,kEq1]
@[simp] theorem ZwH {k0:ByteArray}{l:List (ByteArray×Bool)}:Zg5 1 ([.v (.string k0)]) (List.map Zke l)=Option.map (fun v:Bool=>([.v (.bool v)]:List Cell)) (Zcc k0 l):=ZpC (eK:=(fun k:ByteArray=>([.v (.string k)]:List Cell))) (eV:=(fun v:Bool=>([.v (.bool v)]:List Cell))) (fun k=>by simp) eM_Str_B_he k0 l
@[simp] theorem ZwI {k0:ByteArray}{v0:Bool}{l:List (ByteArray×Bool)}:Zh6 1 ([.v (.string k0)]) ([.v (.bool v0)]) (List.map Zke l)=List.map Zke (ZeG k0 v0 l):=ZpD (eK:=(fun k:ByteArray=>([.v (.string k)]:List Cell))) (eV:=(fun v:Bool=>([.v (.bool v)]:List Cell))) (fun k=>by simp) eM_Str_B_he k0 v0 l
@[simp] theorem Zw5 (o:Option Bool):(Option.map (fun v:Bool=>([.v (.bool v)]:List Cell)) o).getD ([.v (.bool false)])=[.v (.bool (o.getD false))]:=by cases o <;> rfl
@[simp] theorem Zv3 {k0:ByteArray}{v0:Bool}:Zh6 1 ([.v (.string k0)]) ([.v (.bool v0)]) []=List.map Zke (ZeG k0 v0 []):=rfl
theorem bN {α β:Type}{o:Option α}{f:α→Option β}{y:β}{P P':α→Prop}(h:o.bind f=some y) (k:∀ {x},o=some x→P x) (n:∀ x,P x→P' x:=by intro x h; try simp only[kS,nf,nfs,Yp] at h; exact h):∃ x,P' x∧f x=some y :=
  let ⟨x,h1,h2⟩:=bs h
  ⟨x,n x (k h1),h2⟩
theorem Zdi {P R:Prop}(k:R) (h:∀ X:Prop,ZaX X R→Imp X P:=by
  intro X e
  repeat (first
    | (with_reducible refine ZeQ ?_)
    | (with_reducible refine ZbI ?_)
    | (with_reducible refine ZaY ?_)
    | (with_reducible refine ZbJ ?_)
    | (with_reducible refine Zcx ?_)
    | (with_reducible refine ZeR ?_)
    | (with_reducible refine Zgm ?_)
    | (with_reducible refine Zgn ?_)
    | (with_reducible refine ZhY ?_)
    | (with_reducible refine YF ?_ ?_; · simp[-Int.ofNat_toNat,bV, *]; done)
    | (with_reducible refine YG ?_ ?_; · simp[-Int.ofNat_toNat,bV, *]; done)
    | (refine Zcw rfl (by first | (simp[-Int.ofNat_toNat,Nat.add_assoc,-Int.natCast_tdiv_eq_ediv, *] <;> rfl) | fail) ?_)
    | (refine ZbH rfl (by simp[-Int.ofNat_toNat,Nat.add_assoc,-Int.natCast_tdiv_eq_ediv, *]; first | exact⟨rfl,rfl⟩ | rfl) (by kernel_rfl) ?_)
    | (with_reducible refine Zax ?_ ?_; · simp[-Int.ofNat_toNat,bV, *]; done)
    | (with_reducible refine Zay ?_ ?_; · simp[-Int.ofNat_toNat,bV, *]; done)
    | (refine ZhX rfl (by first | (simp[-Int.ofNat_toNat,Nat.add_assoc,-Int.natCast_tdiv_eq_ediv, *] <;> rfl) | fail) ?_)
    | (refine Zgl rfl (by simp[-Int.ofNat_toNat,Nat.add_assoc,-Int.natCast_tdiv_eq_ediv, *]; first | exact⟨rfl,rfl⟩ | rfl) (by kernel_rfl) ?_)
    | (refine ZeS ?_ (by simp only[pq,reduceCtorEq]; rfl)))
  exact Imp.of e):P:=h R ⟨rfl⟩ k
theorem goR {P R:Prop}(k:R) (h:∀ X:Prop,ZaX X R→Imp X P:=by
  intro X e
  repeat (first
    | (with_reducible refine ZeQ ?_)
    | (with_reducible refine ZbI ?_)
    | (with_reducible refine ZaY ?_)
    | (with_reducible refine ZbJ ?_)
    | (with_reducible refine Zcx ?_)
    | (with_reducible refine ZeR ?_)
    | (with_reducible refine Zgm ?_)
    | (with_reducible refine Zgn ?_)
    | (with_reducible refine ZhY ?_)
    | (with_reducible refine YF ?_ ?_; · simp[-Int.ofNat_toNat,bV, *]; done)
    | (with_reducible refine YG ?_ ?_; · simp[-Int.ofNat_toNat,bV, *]; done)
    | (refine Zcw rfl (by first | (simp[-Int.ofNat_toNat,List.range,List.range.loop, *] <;> rfl) | fail) ?_)
    | (refine ZbH rfl (by simp[-Int.ofNat_toNat,List.range,List.range.loop, *]; first | exact⟨rfl,rfl⟩ | rfl) (by kernel_rfl) ?_)
    | (with_reducible refine Zax ?_ ?_; · simp[-Int.ofNat_toNat,bV, *]; done)
    | (with_reducible refine Zay ?_ ?_; · simp[-Int.ofNat_toNat,bV, *]; done)
    | (refine ZhX rfl (by first | (simp[-Int.ofNat_toNat,List.range,List.range.loop, *] <;> rfl) | fail) ?_)
    | (refine Zgl rfl (by simp[-Int.ofNat_toNat,List.range,List.range.loop, *]; first | exact⟨rfl,rfl⟩ | rfl) (by kernel_rfl) ?_)
    | (refine ZeS ?_ (by simp only[pq,reduceCtorEq]; rfl)))
  exact Imp.of e):P:=h R ⟨rfl⟩ k
def G:Glob:=fun g=>if g=0 then some (arC .u32 shaInitial) else if g=1 then some (arC .u32 shaK) else none
@[simp] theorem G_at0:G 0=some (arC .u32 shaInitial):=rfl
@[simp] theorem G_at1:G 1=some (arC .u32 shaK):=rfl
noncomputable abbrev K65:=cn (a1 (eS XX)) (r1 (oL .u8)) Zid
noncomputable abbrev K66:=cn (a1 (eI .u64)) (r1 (oL .u8)) Zie
noncomputable abbrev K139:=cn (a2 (eI .u32) (eI .i64)) (r1 (eI .u32)) (u2 YR)
noncomputable abbrev K106:=cn (a2 (eI .u32) (eI .i64)) (r1 (eI .u32)) (u2 XN)
noncomputable abbrev K105:=cn (a1 (eA .u8)) (r1 (eA .u32)) Zdr
noncomputable abbrev K67:=cn (a2 (eA .u32) (eA .u8)) (r1 (eA .u32)) (u2 Zds)
noncomputable abbrev K41:=cn (a1 (eL .u8)) (r1 (eA .u8)) Zhc
noncomputable abbrev K24:=cn (a1 (eL .u8)) (r1 (eA .u8)) Zcy
def G42:List PV→Option (PV×List (List Cell))
  | [.one (.slice .nil []),.one (.v (.int .i64 n))]=>if 0≤n∧n≤70368744177664 then some (.one (.own 1 []),[]) else none
  | _=>none
theorem ZwJ {n:Int}(h:0≤n∧n≤70368744177664):G42 [.one (.slice .nil []),.one (.v (.int .i64 n))]=some (.one (.own 1 []),[]):=by
  simp[G42,h]
def E25 (x:(List (List Int))):List PV:=[.one (.slice .no (List.map XX x))]
theorem E25i:∀ a b,E25 a=E25 b→a=b:=by
  rintro a0 b0 h
  simpa[E25,and_assoc] using h
def R25 (x:(List (List Int))) (y:(List Int)):PV×List (List Cell):=(.one (.own 1 (Zg .u8 y)),[])
noncomputable def G25:=Zae E25 fun x=>(ZR x).map (R25 x)
theorem ZwK {a0:(List (List Int))}{y:(List Int)}(h:ZR a0=some y):G25 (E25 a0)=some (R25 a0 y):=YY E25i h
noncomputable abbrev K8:=cn (a2 (eA .u8) (eA .u8)) (r1 (eA .u8)) (u2 Zbq)
noncomputable abbrev K21:=cn (a1 (eG Z8)) (r1 eB) Yz
noncomputable abbrev K23:=cn (a2 (eG Z8) (eI .i64)) (r1 (eA .u8)) (u2 XZ)
noncomputable abbrev K26:=cn (a1 (eS ZgR)) (r1 (oS 32 (arC .u8))) Yx
noncomputable abbrev K27:=cn (a2 (eA .u8) (eS (arC .u8))) (r1 (oS 32 (arC .u8))) (u2 Xk)
noncomputable abbrev K11:Con (Tapi_FilterChain×(List (Arr 32))×(List (Arr 32))) (Tapi_FilterChain×Int):=cn (a3 (eG Z8) (eS (arC .u8)) (eS (arC .u8))) (r2 (eG Z8) (eI .i64)) (u3 Z2)
noncomputable abbrev K29:=cn (a2 (eS (arC .u8)) (eS (arC .u8))) (r1 (eI .i64)) (u2 ZS)
noncomputable abbrev K16:=cn (a2 (eS (arC .u8)) (eS (arC .u8))) (r1 (eI .i64)) (u2 Zaa)
noncomputable abbrev K5:=cn a0 (r1 eB) (fun(_:Unit)=>Llaw21_sane)
noncomputable abbrev K61:=cn (a2 (eL .u8) (eL .u8)) (r1 (oL .u8)) (u2 YD)
noncomputable abbrev K104:=cn (a2 (eI .u64) (eI .i64)) (r1 (oL .u8)) (u2 Xp)
noncomputable abbrev K62:=cn (a2 (eL .u8) (eI .u16)) (r1 (oL .u8)) (u2 Zbh)
noncomputable abbrev K63:=cn (a2 (eL .u8) (eI .u32)) (r1 (oL .u8)) (u2 Z6)
noncomputable abbrev K64:=cn (a2 (eL .u8) (eI .u64)) (r1 (oL .u8)) (u2 Zap)
noncomputable abbrev K40:=cn (a2 (eL .u8) (eI .u64)) (r1 (oL .u8)) (u2 Yv)
noncomputable abbrev K39:=cn (a2 (eL .u8) (eL .u8)) (r1 (oL .u8)) (u2 Xj)
noncomputable abbrev K22:Con Tapi_Filter ((List Int)×Int):=cn (a1 (eG ZaL)) (r2 (eL .u8) (eI .i64)) ZcI
noncomputable abbrev K9:=cn (a1 (eG ZaL)) (r1 (eA .u8)) Zc5
noncomputable abbrev K71:=cn (a1 (eI .u8)) (r1 (oL .u8)) ZaP
noncomputable abbrev K140:=cn (a1 (eL .u8)) (r1 (eS XX)) Zhr
noncomputable abbrev K107:Con (Tapi_Coin×Int) (Tapi_Tx×Int):=cn (a2 (eG Zr) (eI .u8)) (fun _ y=>(.tup [.agg ([.v (.int .u32 y.1.1),.own 35 (List.map Za1 y.1.2.1),.own 2 (List.map Xh y.1.2.2.1),.v (.int .u32 y.1.2.2.2)]),.one (.v (.int .i64 y.2))],[])) (u2 Zfw)
noncomputable abbrev K99:=cn (a1 (eI .u64)) (r1 (oL .u8)) Zgb
noncomputable abbrev K100:=cn a0 (r1 (eA .u32)) (fun(_:Unit)=>Lref03_Initial)
noncomputable abbrev K138:=cn (a2 (eI .u32) (eI .i64)) (r1 (eI .u32)) (u2 YZ)
noncomputable abbrev K136:=cn (a1 (eA .u8)) (r1 (eA .u32)) Zb3
noncomputable abbrev K137:=cn a0 (r1 (eA .u32)) (fun(_:Unit)=>Lref03_constants)
def Zgy (x:(Arr 8)×(Arr 64)):List PV:=[.agg (arC .u32 x.1),.agg (arC .u8 x.2)]
theorem E101i:∀ a b,Zgy a=Zgy b→a=b:=by
  rintro⟨a0,a1⟩ ⟨b0,b1⟩ h
  simpa[Zgy,and_assoc] using h
def ZiC (x:(Arr 8)×(Arr 64)) (y:(Arr 8)):PV×List (List Cell):=(.agg (arC .u32 y),[])
noncomputable def G101:=Zae Zgy fun x=>(XF x.1 x.2).map (ZiC x)
theorem Zra {a0:(Arr 8)}{a1:(Arr 64)}{y:(Arr 8)}(h:XF a0 a1=some y):G101 (Zgy (a0,a1))=some (ZiC (a0,a1) y):=YY E101i h
def E58 (x:(List Int)):List PV:=[.one (.slice .no (Zg .u8 x))]
theorem E58i:∀ a b,E58 a=E58 b→a=b:=by
  rintro a0 b0 h
  simpa[E58,and_assoc] using h
def R58 (x:(List Int)) (y:(Arr 32)):PV×List (List Cell):=(.agg (arC .u8 y),[])
noncomputable def G58:=Zae E58 fun x=>(Xa x).map (R58 x)
theorem Zqc {a0:(List Int)}{y:(Arr 32)}(h:Xa a0=some y):G58 (E58 a0)=some (R58 a0 y):=YY E58i h
noncomputable abbrev K37:=cn (a1 (eL .u8)) (r1 (eA .u8)) Zbb
noncomputable abbrev K102:=cn (a2 (eL .u8) (eL .u8)) (r1 (oL .u8)) (u2 Ye)
noncomputable abbrev K103:=cn (a2 (eI .u64) (eI .i64)) (r1 (oL .u8)) (u2 Yf)
noncomputable abbrev K59:=cn (a2 (eL .u8) (eI .u32)) (r1 (oL .u8)) (u2 ZY)
noncomputable abbrev K172:=cn (a2 (eL .u8) (eI .u64)) (r1 (oL .u8)) (u2 YN)
noncomputable abbrev K60:=cn (a2 (eL .u8) (eA .u8)) (r1 (oL .u8)) (u2 Yw)
noncomputable abbrev K173:=cn (a1 (eG eapi_OutPoint)) (r1 (oL .u8)) ZcW
noncomputable abbrev K175:=cn (a2 (eL .u8) (eL .u8)) (r1 (oL .u8)) (u2 XK)
noncomputable abbrev K189:=cn (a2 (eL .u8) (eI .u64)) (r1 (oL .u8)) (u2 Zbi)
noncomputable abbrev K174:=cn (a1 (eG Xh)) (r1 (oL .u8)) ZdH
noncomputable abbrev K142:=cn (a2 (eG ZX) eB) (r1 (oL .u8)) (u2 Zal)
noncomputable abbrev K141:=cn (a1 (eG ZX)) (r1 eB) Zag
noncomputable abbrev K108:=cn (a1 (eG ZX)) (r1 (eA .u8)) Zex
def E68 (x:Tapi_Params×Tapi_Ledger×Int):List PV:=[.agg ((.v (.int .u32 x.1.1.1)) :: ((arC .u8 x.1.1.2.1)++((arC .u8 x.1.1.2.2.1)++((.v (.int .u32 x.1.1.2.2.2.1)) :: ((.v (.int .u32 x.1.1.2.2.2.2.1)) :: ((.v (.int .u32 x.1.1.2.2.2.2.2)) :: ((arC .u64 x.1.2.1)++((.v (.int .i64 x.1.2.2.1)) :: ((.v (.int .u32 x.1.2.2.2.1)) :: ((.v (.int .u32 x.1.2.2.2.2.1)) :: ((.v (.int .u32 x.1.2.2.2.2.2.1)) :: ((.slice .no (List.map eapi_Checkpoint x.1.2.2.2.2.2.2.1)) :: ((.v (.int .i64 x.1.2.2.2.2.2.2.2.1)) :: ((.v (.int .i64 x.1.2.2.2.2.2.2.2.2.1)) :: ((.v (.int .i64 x.1.2.2.2.2.2.2.2.2.2)) :: []))))))))))))))),.agg ((.v (.int .i64 x.2.1.1)) :: ((arC .u8 x.2.1.2.1)++((.slice .no (List.map Zr x.2.1.2.2)) :: []))),.one (.v (.int .u8 x.2.2))]
theorem E68i:∀ a b,E68 a=E68 b→a=b:=by
  rintro⟨⟨⟨a0_0_0,a0_0_1,a0_0_2,a0_0_3,a0_0_4,a0_0_5⟩,a0_1,a0_2,a0_3,a0_4,a0_5,a0_6,a0_7,a0_8,a0_9⟩,⟨a1_0,a1_1,a1_2⟩,a2⟩ ⟨⟨⟨b0_0_0,b0_0_1,b0_0_2,b0_0_3,b0_0_4,b0_0_5⟩,b0_1,b0_2,b0_3,b0_4,b0_5,b0_6,b0_7,b0_8,b0_9⟩,⟨b1_0,b1_1,b1_2⟩,b2⟩ h
  simpa[E68,and_assoc] using h
def R68 (x:Tapi_Params×Tapi_Ledger×Int) (y:(List Tapi_Tx)×Int):PV×List (List Cell):=(.tup [.one (.own 4 (List.map ZX y.1)),.one (.v (.int .i64 y.2))],[])
noncomputable def G68:=Zae E68 fun x=>(YJ x.1 x.2.1 x.2.2).map (R68 x)
theorem ZtD {a0:Tapi_Params}{a1:Tapi_Ledger}{a2:Int}{y:(List Tapi_Tx)×Int}(h:YJ a0 a1 a2=some y):G68 (E68 (a0,a1,a2))=some (R68 (a0,a1,a2) y):=YY E68i h
noncomputable abbrev K109:Con Unit Tapi_OutPoint:=cn a0 (r1 (eG eapi_OutPoint)) (fun(_:Unit)=>Lmade_Null)
noncomputable abbrev K69:Con (Int×Int×(List Int)) Tapi_Tx:=cn (a3 (eI .i64) (eI .i64) (eL .u8)) (fun _ y=>(.agg ([.v (.int .u32 y.1),.own 35 (List.map Za1 y.2.1),.own 2 (List.map Xh y.2.2.1),.v (.int .u32 y.2.2.2)]),[])) (u3 Zeg)
noncomputable abbrev K124:=cn (a2 (eA .u64) (eI .i64)) (r1 eB) (u2 ZaT)
noncomputable abbrev K87:=cn (a2 (eA .u64) (eI .i64)) (r1 (eA .u64)) (u2 ZaU)
noncomputable abbrev K125:=cn (a1 (eA .u64)) (r1 eB) ZbC
noncomputable abbrev K155:=cn (a1 (eI .u64)) (r1 (eA .u64)) X7
noncomputable abbrev K158:=cn (a1 (eA .u64)) (r1 (eI .i64)) ZbD
def Zji (x:Int×Int×Int):List PV:=[.one (.v (.int .u64 x.1)),.one (.v (.int .u64 x.2.1)),.one (.v (.int .u64 x.2.2))]
theorem E181i:∀ a b,Zji a=Zji b→a=b:=by
  rintro⟨a0,a1,a2⟩ ⟨b0,b1,b2⟩ h
  simpa[Zji,and_assoc] using h
def ZkC (x:Int×Int×Int) (y:Int×Int):PV×List (List Cell):=(.tup [.one (.v (.int .u64 y.1)),.one (.v (.int .u64 y.2))],[])
noncomputable def G181:=Zae Zji fun x=>(Xo x.1 x.2.1 x.2.2).map (ZkC x)
theorem ZvT {a0:Int}{a1:Int}{a2:Int}{y:Int×Int}(h:Xo a0 a1 a2=some y):G181 (Zji (a0,a1,a2))=some (ZkC (a0,a1,a2) y):=YY E181i h
noncomputable abbrev K182:Con ((Arr 4)×(Arr 4)) ((Arr 4)×Bool):=cn (a2 (eA .u64) (eA .u64)) (r2 (eA .u64) eB) (u2 ZeM)
noncomputable abbrev K159:=cn (a2 (eA .u64) (eI .i64)) (r1 (eA .u64)) (u2 ZeN)
noncomputable abbrev K121:Con Int ((Arr 4)×Int):=cn (a1 (eI .u32)) (r2 (eA .u64) (eI .i64)) Zbc
noncomputable abbrev K122:=cn (a2 (eA .u64) (eA .u64)) (r1 (eI .i64)) (u2 Xn)
noncomputable abbrev K89:=cn (a1 (eG YC)) (r1 eB) Xq
noncomputable abbrev K70:=cn (a2 (eG YC) (eI .i64)) (r1 (eI .i64)) (u2 Zbt)
noncomputable abbrev K38:=cn (a1 (eG eapi_Header)) (r1 (oL .u8)) Xz
noncomputable abbrev K20:=cn (a1 (eG eapi_Header)) (r1 (eA .u8)) Zai
noncomputable abbrev K131:Con (Int×Int) (Int×Int):=cn (a2 (eI .u64) (eI .u64)) (r2 (eI .u64) (eI .u64)) (u2 XP)
noncomputable abbrev K154:Con ((Arr 4)×(Arr 4)) ((Arr 4)×(Arr 4)):=cn (a2 (eA .u64) (eA .u64)) (r2 (eA .u64) (eA .u64)) (u2 Zgi)
def Zjj (x:Int×Int×Int):List PV:=[.one (.v (.int .u64 x.1)),.one (.v (.int .u64 x.2.1)),.one (.v (.int .u64 x.2.2))]
theorem E199i:∀ a b,Zjj a=Zjj b→a=b:=by
  rintro⟨a0,a1,a2⟩ ⟨b0,b1,b2⟩ h
  simpa[Zjj,and_assoc] using h
def ZkD (x:Int×Int×Int) (y:Int×Int):PV×List (List Cell):=(.tup [.one (.v (.int .u64 y.1)),.one (.v (.int .u64 y.2))],[])
noncomputable def G199:=Zae Zjj fun x=>(Zav x.1 x.2.1 x.2.2).map (ZkD x)
theorem ZvU {a0:Int}{a1:Int}{a2:Int}{y:Int×Int}(h:Zav a0 a1 a2=some y):G199 (Zjj (a0,a1,a2))=some (ZkD (a0,a1,a2) y):=YY E199i h
noncomputable abbrev K183:Con ((Arr 4)×(Arr 4)) ((Arr 4)×Bool):=cn (a2 (eA .u64) (eA .u64)) (r2 (eA .u64) eB) (u2 Zge)
noncomputable abbrev K156:Con ((Arr 4)×(Arr 4)×(Arr 4)) ((Arr 4)×(Arr 4)×Bool):=cn (a3 (eA .u64) (eA .u64) (eA .u64)) (r3 (eA .u64) (eA .u64) eB) (u3 Zgj)
noncomputable abbrev K157:=cn (a1 (eA .u64)) (r1 (eI .u32)) ZcO
noncomputable abbrev K120:Con (Tapi_Params×Int×Int×Int) (Int×Int):=cn (a4 (eG YC) (eI .u32) (eI .u32) (eI .u32)) (r2 (eI .u32) (eI .i64)) (u4 ZdA)
noncomputable abbrev K83:Con (Tapi_Params×Tapi_Context) (Int×Int):=cn (a2 (eG YC) (eG YI)) (r2 (eI .u32) (eI .i64)) (u2 Zdg)
noncomputable abbrev K123:=cn (a1 (eA .u8)) (r1 (eA .u64)) Zaw
noncomputable abbrev K84:=cn (a2 (eA .u8) (eI .u32)) (r1 eB) (u2 Zc7)
noncomputable abbrev K85:=cn (a1 (eL .u32)) (r1 (eI .u32)) Zcg
noncomputable abbrev K72:Con (Tapi_Params×Tapi_Context×(Arr 32)×Int) Tapi_Header:=cn (a4 (eG YC) (eG YI) (eA .u8) (eI .u32)) (r1 (eG eapi_Header)) (u4 Zfx)
noncomputable abbrev K110:=cn (a1 (eG ZX)) (r1 (eA .u8)) Zfq
noncomputable abbrev K150:=cn (a1 (eS XX)) (r1 (oL .u8)) ZaK
noncomputable abbrev K176:=cn (a2 (eA .u8) (eA .u8)) (r1 (eA .u8)) (u2 Zfr)
noncomputable abbrev K143:=cn (a1 (eS (arC .u8))) (r1 (oS 1 ZgR)) Zdw
noncomputable abbrev K111:=cn (a1 (eS (arC .u8))) (r1 (eA .u8)) Zfs
noncomputable abbrev K73:=cn (a1 (eS ZX)) (r1 (eA .u8)) ZdV
noncomputable abbrev K74:=cn (a1 (eI .u8)) (r1 (eI .u32)) Ze8
noncomputable abbrev K43:Con (Tapi_Params×Tapi_Ledger×Tapi_Context×Int) Tapi_Block:=cn (a4 (eG YC) (eG Xs) (eG YI) (eI .u8)) (fun _ y=>(.agg ((.v (.int .u32 y.1.1)) :: ((arC .u8 y.1.2.1)++((arC .u8 y.1.2.2.1)++((.v (.int .u32 y.1.2.2.2.1)) :: ((.v (.int .u32 y.1.2.2.2.2.1)) :: ((.v (.int .u32 y.1.2.2.2.2.2)) :: ((.own 4 (List.map ZX y.2)) :: []))))))),[])) (u4 Zeo)
def Zgz (x:Tapi_OutPoint×Tapi_OutPoint):List PV:=[.agg ((arC .u8 x.1.1)++((.v (.int .u32 x.1.2)) :: [])),.agg ((arC .u8 x.2.1)++((.v (.int .u32 x.2.2)) :: []))]
theorem E144i:∀ a b,Zgz a=Zgz b→a=b:=by
  rintro⟨⟨a0_0,a0_1⟩,⟨a1_0,a1_1⟩⟩ ⟨⟨b0_0,b0_1⟩,⟨b1_0,b1_1⟩⟩ h
  simpa[Zgz,and_assoc] using h
def ZiD (x:Tapi_OutPoint×Tapi_OutPoint) (y:Int):PV×List (List Cell):=(.one (.v (.int .i64 y)),[])
noncomputable def G144:=Zae Zgz fun x=>(Xd x.1 x.2).map (ZiD x)
theorem Zrb {a0:Tapi_OutPoint}{a1:Tapi_OutPoint}{y:Int}(h:Xd a0 a1=some y):G144 (Zgz (a0,a1))=some (ZiD (a0,a1) y):=YY E144i h
noncomputable abbrev K112:=cn (a1 (eG Xs)) (r1 eB) Zda
noncomputable abbrev K151:=cn (a1 (eG eapi_OutPoint)) (r1 eB) ZdS
noncomputable abbrev K116:=cn (a1 (eG ZX)) (r1 eB) X5
noncomputable abbrev K190:Con (Tapi_Tx×Bool) ((List Int)×Int):=cn (a2 (eG ZX) eB) (r2 (eL .u8) (eI .i64)) (u2 Zdx)
noncomputable abbrev K177:=cn (a1 (eG YV)) (r1 (oL .u8)) Zdy
noncomputable abbrev K145:=cn (a1 (eG YV)) (r1 eB) Zft
noncomputable abbrev K146:=cn (a1 (eG ZX)) (r1 (eI .i64)) Zc0
noncomputable abbrev K147:=cn (a2 (eS (arC .u8)) (eA .u8)) (r1 (eI .i64)) (u2 Zdb)
noncomputable abbrev K148:=cn (a2 (eG YV) (eS (arC .u8))) (r1 eB) (u2 ZcK)
noncomputable abbrev K149:=cn (a1 (eG YV)) (r1 eB) Zeh
noncomputable abbrev K113:=cn (a1 (eG YV)) (r1 (eI .i64)) ZbT
def ZgA (x:Tapi_Tx×Int):List PV:=[.agg ([.v (.int .u32 x.1.1),.slice .no (List.map Za1 x.1.2.1),.slice .no (List.map Xh x.1.2.2.1),.v (.int .u32 x.1.2.2.2)]),.one (.v (.int .i64 x.2))]
theorem E114i:∀ a b,ZgA a=ZgA b→a=b:=by
  rintro⟨⟨a0_0,a0_1,a0_2,a0_3⟩,a1⟩ ⟨⟨b0_0,b0_1,b0_2,b0_3⟩,b1⟩ h
  simpa[ZgA,and_assoc] using h
def ZiE (x:Tapi_Tx×Int) (y:Bool):PV×List (List Cell):=(.one (.v (.bool y)),[])
noncomputable def G114:=Zae ZgA fun x=>(Zaj x.1 x.2).map (ZiE x)
theorem Zrc {a0:Tapi_Tx}{a1:Int}{y:Bool}(h:Zaj a0 a1=some y):G114 (ZgA (a0,a1))=some (ZiE (a0,a1) y):=YY E114i h
noncomputable abbrev K75:=cn (a3 (eG YC) (eG Xs) (eG YV)) (r1 (eI .i64)) (u3 Zei)
noncomputable abbrev K79:=cn (a2 (eS Zr) (eG eapi_OutPoint)) (r1 (eI .i64)) (u2 Zcz)
noncomputable abbrev K115:Con Tapi_Coin Tapi_Coin:=cn (a1 (eG Zr)) (fun _ y=>(.agg ((arC .u8 y.1.1)++((.v (.int .u32 y.1.2)) :: ((.v (.int .i64 y.2.1.1)) :: ((.own 1 (Zg .u8 y.2.1.2)) :: ((.v (.int .i64 y.2.2.1)) :: ((.v (.bool y.2.2.2)) :: [])))))),[])) ZaV
noncomputable abbrev K76:Con (Tapi_Params×(List Tapi_Coin)×Tapi_Tx×Int) ((List Tapi_Coin)×Int):=cn (a4 (eG YC) (eS Zr) (eG ZX) (eI .i64)) (r2 (eS Zr) (eI .i64)) (u4 Zej)
noncomputable abbrev K117:Con (Tapi_Tx×(List Tapi_Coin)) (Int×Int):=cn (a2 (eG ZX) (eS Zr)) (r2 (eI .i64) (eI .i64)) (u2 Zf9)
def Zhn (x:ByteArray×(List Int)):List PV:=[.one (.v (.string x.1)),.one (.slice .no (Zg .u8 x.2))]
theorem E178i:∀ a b,Zhn a=Zhn b→a=b:=by
  rintro⟨a0,a1⟩ ⟨b0,b1⟩ h
  simpa[Zhn,and_assoc] using h
def Zjk (x:ByteArray×(List Int)) (y:(Arr 32)):PV×List (List Cell):=(.agg (arC .u8 y),[])
noncomputable def G178:=Zae Zhn fun x=>(Zan x.1 x.2).map (Zjk x)
theorem ZvV {a0:ByteArray}{a1:(List Int)}{y:(Arr 32)}(h:Zan a0 a1=some y):G178 (Zhn (a0,a1))=some (Zjk (a0,a1) y):=YY E178i h
noncomputable abbrev K152:Con (Tapi_Tx×Int×Tapi_Output) ((Arr 32)×Int):=cn (a3 (eG ZX) (eI .i64) (eG Xh)) (r2 (eA .u8) (eI .i64)) (u3 ZcP)
noncomputable abbrev K153:=cn (a3 (eL .u8) (eS XX) (eG eapi_Env)) (r1 (eI .i64)) (u3 ZaD)
noncomputable abbrev K118:=cn (a4 (eG ZX) (eI .i64) (eG Zr) (eI .i64)) (r1 (eI .i64)) (u4 Zep)
noncomputable abbrev K77:Con (Tapi_Tx×(List Tapi_Coin)×Int) (Int×Int):=cn (a3 (eG ZX) (eS Zr) (eI .i64)) (r2 (eI .i64) (eI .i64)) (u3 Zeq)
noncomputable abbrev K78:=cn (a2 (eS Zr) (eI .i64)) (r1 (eS Zr)) (u2 ZcL)
noncomputable abbrev K82:=cn (a2 (eG ZX) (eI .i64)) (r1 (oS 37 Zr)) (u2 ZaC)
def Zho (x:(List Tapi_Coin)×Tapi_Coin):List PV:=[.one (.slice .no (List.map Zr x.1)),.agg ((arC .u8 x.2.1.1)++((.v (.int .u32 x.2.1.2)) :: ((.v (.int .i64 x.2.2.1.1)) :: ((.slice .no (Zg .u8 x.2.2.1.2)) :: ((.v (.int .i64 x.2.2.2.1)) :: ((.v (.bool x.2.2.2.2)) :: []))))))]
theorem E119i:∀ a b,Zho a=Zho b→a=b:=by
  rintro⟨a0,⟨⟨a1_0_0,a1_0_1⟩,⟨a1_1_0,a1_1_1⟩,a1_2,a1_3⟩⟩ ⟨b0,⟨⟨b1_0_0,b1_0_1⟩,⟨b1_1_0,b1_1_1⟩,b1_2,b1_3⟩⟩ h
  simpa[Zho,and_assoc] using h
def Zjl (x:(List Tapi_Coin)×Tapi_Coin) (y:(List Tapi_Coin)):PV×List (List Cell):=(.one (.slice .no (List.map Zr y)),[])
noncomputable def G119:=Zae Zho fun x=>(ZbE x.1 x.2).map (Zjl x)
theorem ZvW {a0:(List Tapi_Coin)}{a1:Tapi_Coin}{y:(List Tapi_Coin)}(h:ZbE a0 a1=some y):G119 (Zho (a0,a1))=some (Zjl (a0,a1) y):=YY E119i h
noncomputable abbrev K80:Con ((List Tapi_Coin)×Tapi_Tx×Int) ((List Tapi_Coin)×Int):=cn (a3 (eS Zr) (eG ZX) (eI .i64)) (r2 (eS Zr) (eI .i64)) (u3 Zgh)
noncomputable abbrev K81:=cn (a1 (eS Zr)) (r1 (eI .i64)) Zdc
noncomputable abbrev K44:Con (Tapi_Params×Tapi_Ledger×Tapi_Block) (Tapi_Ledger×(List Tapi_Coin)×Int):=cn (a3 (eG YC) (eG Xs) (eG YV)) (r3 (eG Xs) (eG Zey) (eI .i64)) (u3 Zb9)
noncomputable abbrev K86:=cn (a2 (eG YC) (eG YI)) (r1 eB) (u2 Zfu)
noncomputable abbrev K46:Con (Tapi_Params×Tapi_Context×Tapi_Header) (Tapi_Context×Int):=cn (a3 (eG YC) (eG YI) (eG eapi_Header)) (r2 (eG YI) (eI .i64)) (u3 Zbv)
noncomputable abbrev K45:=cn (a4 (eG YC) (eG YI) (eG eapi_Header) (eI .u32)) (r1 (eI .i64)) (u4 Zch)
noncomputable abbrev K88:=cn (a1 (eA .u64)) (r1 (eA .u64)) ZhL
noncomputable abbrev K47:Con Int Tapi_Params:=cn (a1 (eI .u8)) (r1 (eG YC)) Zek
noncomputable abbrev K48:Con Tapi_Params (Tapi_Ledger×Int):=cn (a1 (eG YC)) (r2 (eG Xs) (eI .i64)) Zel
noncomputable abbrev K49:Con Tapi_Params (Tapi_Context×Int):=cn (a1 (eG YC)) (r2 (eG YI) (eI .i64)) Zem
noncomputable abbrev K31:Con Int Tlightclientmade_World:=cn (a1 (eI .u8)) (fun _ y=>(.agg ((.v (.int .u32 y.1.1.1)) :: ((arC .u8 y.1.1.2.1)++((arC .u8 y.1.1.2.2.1)++((.v (.int .u32 y.1.1.2.2.2.1)) :: ((.v (.int .u32 y.1.1.2.2.2.2.1)) :: ((.v (.int .u32 y.1.1.2.2.2.2.2)) :: ((arC .u64 y.1.2.1)++((.v (.int .i64 y.1.2.2.1)) :: ((.v (.int .u32 y.1.2.2.2.1)) :: ((.v (.int .u32 y.1.2.2.2.2.1)) :: ((.v (.int .u32 y.1.2.2.2.2.2.1)) :: ((.slice .no (List.map eapi_Checkpoint y.1.2.2.2.2.2.2.1)) :: ((.v (.int .i64 y.1.2.2.2.2.2.2.2.1)) :: ((.v (.int .i64 y.1.2.2.2.2.2.2.2.2.1)) :: ((.v (.int .i64 y.1.2.2.2.2.2.2.2.2.2)) :: ((.slice .no (List.map YV y.2.1)) :: ((.own 34 (List.map Xs y.2.2.1)) :: ((.own 36 (List.map YI y.2.2.2.1)) :: ((.slice .no (List.map Zey y.2.2.2.2)) :: []))))))))))))))))))),[])) Zfv
def E30_1 (x:Tlightclientmade_World×(List Int)):List PV:=[.agg ((.v (.int .u32 x.1.1.1.1)) :: ((arC .u8 x.1.1.1.2.1)++((arC .u8 x.1.1.1.2.2.1)++((.v (.int .u32 x.1.1.1.2.2.2.1)) :: ((.v (.int .u32 x.1.1.1.2.2.2.2.1)) :: ((.v (.int .u32 x.1.1.1.2.2.2.2.2)) :: ((arC .u64 x.1.1.2.1)++((.v (.int .i64 x.1.1.2.2.1)) :: ((.v (.int .u32 x.1.1.2.2.2.1)) :: ((.v (.int .u32 x.1.1.2.2.2.2.1)) :: ((.v (.int .u32 x.1.1.2.2.2.2.2.1)) :: ((.slice .no (List.map eapi_Checkpoint x.1.1.2.2.2.2.2.2.1)) :: ((.v (.int .i64 x.1.1.2.2.2.2.2.2.2.1)) :: ((.v (.int .i64 x.1.1.2.2.2.2.2.2.2.2.1)) :: ((.v (.int .i64 x.1.1.2.2.2.2.2.2.2.2.2)) :: ((.slice .no (List.map YV x.1.2.1)) :: ((.own 34 (List.map Xs x.1.2.2.1)) :: ((.own 36 (List.map YI x.1.2.2.2.1)) :: ((.slice .no (List.map Zey x.1.2.2.2.2)) :: []))))))))))))))))))),.one (.slice .no (Zg .u8 x.2))]
instance:YH E30_1:=⟨by intro a b h; simpa[E30_1,Prod.ext_iff,and_assoc] using h⟩
noncomputable abbrev K30_1:Con (Tlightclientmade_World×(List Int)) Tlightclientmade_World:=cn E30_1 (fun _ y=>(.agg ((.v (.int .u32 y.1.1.1)) :: ((arC .u8 y.1.1.2.1)++((arC .u8 y.1.1.2.2.1)++((.v (.int .u32 y.1.1.2.2.2.1)) :: ((.v (.int .u32 y.1.1.2.2.2.2.1)) :: ((.v (.int .u32 y.1.1.2.2.2.2.2)) :: ((arC .u64 y.1.2.1)++((.v (.int .i64 y.1.2.2.1)) :: ((.v (.int .u32 y.1.2.2.2.1)) :: ((.v (.int .u32 y.1.2.2.2.2.1)) :: ((.v (.int .u32 y.1.2.2.2.2.2.1)) :: ((.slice .no (List.map eapi_Checkpoint y.1.2.2.2.2.2.2.1)) :: ((.v (.int .i64 y.1.2.2.2.2.2.2.2.1)) :: ((.v (.int .i64 y.1.2.2.2.2.2.2.2.2.1)) :: ((.v (.int .i64 y.1.2.2.2.2.2.2.2.2.2)) :: ((.own 69 (List.map YV y.2.1)) :: ((.own 34 (List.map Xs y.2.2.1)) :: ((.own 36 (List.map YI y.2.2.2.1)) :: ((.own 1 (List.map Zey y.2.2.2.2)) :: []))))))))))))))))))),[])) (u2 Zfy)
noncomputable abbrev K17:Con (Int×(List Int)) Tlightclientmade_World:=cn (a2 (eI .u8) (eL .u8)) (fun _ y=>(.agg ((.v (.int .u32 y.1.1.1)) :: ((arC .u8 y.1.1.2.1)++((arC .u8 y.1.1.2.2.1)++((.v (.int .u32 y.1.1.2.2.2.1)) :: ((.v (.int .u32 y.1.1.2.2.2.2.1)) :: ((.v (.int .u32 y.1.1.2.2.2.2.2)) :: ((arC .u64 y.1.2.1)++((.v (.int .i64 y.1.2.2.1)) :: ((.v (.int .u32 y.1.2.2.2.1)) :: ((.v (.int .u32 y.1.2.2.2.2.1)) :: ((.v (.int .u32 y.1.2.2.2.2.2.1)) :: ((.slice .no (List.map eapi_Checkpoint y.1.2.2.2.2.2.2.1)) :: ((.v (.int .i64 y.1.2.2.2.2.2.2.2.1)) :: ((.v (.int .i64 y.1.2.2.2.2.2.2.2.2.1)) :: ((.v (.int .i64 y.1.2.2.2.2.2.2.2.2.2)) :: ((.own 69 (List.map YV y.2.1)) :: ((.own 34 (List.map Xs y.2.2.1)) :: ((.own 36 (List.map YI y.2.2.2.1)) :: ((.own 1 (List.map Zey y.2.2.2.2)) :: []))))))))))))))))))),[])) (u2 Zer)
noncomputable abbrev K18:=cn (a2 (eL .u8) (eI .i64)) (r1 (eL .u8)) (u2 Zgk)
noncomputable abbrev K90:=cn (a2 (eL .u8) (eA .u8)) (r1 (oL .u8)) (u2 Xt)
noncomputable abbrev K50:=cn (a1 (eG eapi_Header)) (r1 (oL .u8)) Xy
noncomputable abbrev K57:=cn (a1 (eG eapi_OutPoint)) (r1 (oL .u8)) Zew
noncomputable abbrev K92:=cn (a2 (eG ZX) eB) (r1 (oL .u8)) (u2 ZeI)
noncomputable abbrev K91:=cn (a1 (eG ZX)) (r1 eB) Zha
noncomputable abbrev K51:Con (Tapi_Tx×Bool) ((List Int)×Int):=cn (a2 (eG ZX) eB) (r2 (eL .u8) (eI .i64)) (u2 Zga)
noncomputable abbrev K32:Con Tapi_Block ((List Int)×Int):=cn (a1 (eG YV)) (r2 (eL .u8) (eI .i64)) Zdv
noncomputable abbrev K52:=cn (a1 (eL .u8)) (r1 (eI .u64)) ZbS
noncomputable abbrev K33:=cn (a1 (eA .u8)) (r1 (eA .u64)) Zig
noncomputable abbrev K34:=cn (a1 (eG eapi_Header)) (r1 (eA .u8)) Zfp
noncomputable abbrev K160:=cn (a1 (eI .u64)) (r1 eB) XV
noncomputable abbrev K126:=cn (a2 (eI .u64) (eI .u64)) (r1 eB) (u2 Y5)
noncomputable abbrev K93:=cn (a1 (eL .u64)) (r1 eB) Z9
noncomputable abbrev K127:=cn (a1 (eG Zhx)) (r1 eB) Zfm
noncomputable abbrev K128:Con Tapi_Bits Tapi_Bits:=cn (a1 (eG Zhx)) (fun _ y=>(.io ([.own 1 (Zg .u8 y.1),.v (.int .i64 y.2)]),[])) Zfn
def E129_2 (x:Tapi_Bits×Bool):List PV:=[.io ([.own 1 (Zg .u8 x.1.1),.v (.int .i64 x.1.2)]),.one (.v (.bool x.2))]
instance:YH E129_2:=⟨by intro a b h; simpa[E129_2,Prod.ext_iff,and_assoc] using h⟩
noncomputable abbrev K129_2:Con (Tapi_Bits×Bool) Tapi_Bits:=cn E129_2 (fun _ y=>(.tup [],[[.own 1 (Zg .u8 y.1),.v (.int .i64 y.2)]])) (u2 XO)
def E130_3 (x:Tapi_Bits×Int×Int):List PV:=[.io ([.own 1 (Zg .u8 x.1.1),.v (.int .i64 x.1.2)]),.one (.v (.int .u64 x.2.1)),.one (.v (.int .i64 x.2.2))]
instance:YH E130_3:=⟨by intro a b h; simpa[E130_3,Prod.ext_iff,and_assoc] using h⟩
noncomputable abbrev K130_3:Con (Tapi_Bits×Int×Int) Tapi_Bits:=cn E130_3 (fun _ y=>(.tup [],[[.own 1 (Zg .u8 y.1),.v (.int .i64 y.2)]])) (u3 X9)
noncomputable abbrev K94:Con (Tapi_Bits×Int×Int) (Tapi_Bits×Int):=cn (a3 (eG Zhx) (eI .u64) (eI .i64)) (r2 (eG Zhx) (eI .i64)) (u3 Zau)
noncomputable abbrev K53:Con ((List Int)×Int) (Tapi_Filter×Int):=cn (a2 (eL .u64) (eI .i64)) (r2 (eG ZaL) (eI .i64)) (u2 Zbo)
noncomputable abbrev K95:=cn (a2 (eI .u64) (eI .u64)) (r1 (eI .u64)) (u2 ZhG)
noncomputable abbrev K161:=cn (a2 (eI .u64) (eI .i64)) (r1 (eI .u64)) (u2 ZT)
noncomputable abbrev K133:=cn (a2 (eA .u64) (eI .i64)) (r1 (eA .u64)) (u2 Zfo)
noncomputable abbrev K132:=cn (a2 (eA .u64) (eI .u64)) (r1 (eA .u64)) (u2 ZdT)
noncomputable abbrev K96:=cn (a2 (eA .u64) (eL .u8)) (r1 (eI .u64)) (u2 Zif)
def E170 (x:Int):List PV:=[.one (.v (.int .u32 x))]
def R170 (x:Int) (y:Int):PV×List (List Cell):=(.one (.v (.int .i64 y)),[])
noncomputable def G170:=Zae E170 fun x=>(Zj1 x).map (R170 x)
def Zjm (x:Int):List PV:=[.one (.v (.int .u64 x))]
theorem E171i:∀ a b,Zjm a=Zjm b→a=b:=by
  rintro a0 b0 h
  simpa[Zjm,and_assoc] using h
def Zlu (x:Int) (y:Int):PV×List (List Cell):=(.one (.v (.int .i64 y)),[])
noncomputable def G171:=Zae Zjm fun x=>(Zbp x).map (Zlu x)
theorem ZvX {a0:Int}{y:Int}(h:Zbp a0=some y):G171 (Zjm a0)=some (Zlu a0 y):=YY E171i h
noncomputable abbrev K135:=cn (a1 (eI .u64)) (r1 (eI .i64)) ZcG
def Zcp (x:(List Int)×Int×Int):List PV:=[.rio 1 (Zg .u64 x.1),.one (.v (.int .i64 x.2.1)),.one (.v (.int .i64 x.2.2))]
theorem E162_4i:∀ a b,Zcp a=Zcp b→a=b:=by
  rintro⟨a0,a1,a2⟩ ⟨b0,b1,b2⟩ h
  simpa[Zcp,and_assoc] using h
def Zeu (x:(List Int)×Int×Int) (y:(List Int)):PV×List (List Cell):=(.tup [],[(Zg .u64 y).flatten])
noncomputable def G162_4:=Zae Zcp fun x=>(Zt x.1 x.2.1 x.2.2).map (Zeu x)
theorem ZoQ {a0:(List Int)}{a1:Int}{a2:Int}{y:(List Int)}(h:Zt a0 a1 a2=some y):G162_4 (Zcp (a0,a1,a2))=some (Zeu (a0,a1,a2) y):=YY E162_4i h
def Zcq (x:(List Int)×Int×Int×Int):List PV:=[.rio 1 (Zg .u64 x.1),.one (.v (.int .i64 x.2.1)),.one (.v (.int .i64 x.2.2.1)),.one (.v (.int .i64 x.2.2.2))]
theorem E134_5i:∀ a b,Zcq a=Zcq b→a=b:=by
  rintro⟨a0,a1,a2,a3⟩ ⟨b0,b1,b2,b3⟩ h
  simpa[Zcq,and_assoc] using h
def Zev (x:(List Int)×Int×Int×Int) (y:(List Int)):PV×List (List Cell):=(.tup [],[(Zg .u64 y).flatten])
noncomputable def G134_5:=Zae Zcq fun x=>(YA x.1 x.2.1 x.2.2.1 x.2.2.2).map (Zev x)
theorem ZtE {a0:(List Int)}{a1:Int}{a2:Int}{a3:Int}{y:(List Int)}(h:YA a0 a1 a2 a3=some y):G134_5 (Zcq (a0,a1,a2,a3))=some (Zev (a0,a1,a2,a3) y):=YY E134_5i h
noncomputable def Zn9 (n:Nat):=Zae Zcq fun x=>(Lslices_pdqsortOrdered_of_uint64w_n n x.1 x.2.1 x.2.2.1 x.2.2.2).map (Zev x)
noncomputable abbrev K97_6:=cn (a1 (oR .u64)) (rio (lR .u64)) Ym
noncomputable abbrev K54:=cn (a4 (eA .u64) (eS XX) (eI .i64) (eI .u64)) (r1 (oL .u64)) (u4 Zb8)
noncomputable abbrev K35:Con ((Arr 2)×(List (List Int))×Int×Int) (Tapi_Filter×Int):=cn (a4 (eA .u64) (eS XX) (eI .i64) (eI .u64)) (r2 (eG ZaL) (eI .i64)) (u4 ZcN)
def E55 (x:(List Int)):List PV:=[.one (.slice .no (Zg .u8 x))]
theorem E55i:∀ a b,E55 a=E55 b→a=b:=by
  rintro a0 b0 h
  simpa[E55,and_assoc] using h
def R55 (x:(List Int)) (y:(List Int)):PV×List (List Cell):=(.one (.own 1 (Zg .u8 y)),[])
noncomputable def G55:=Zae E55 fun x=>(Yt x).map (R55 x)
theorem ZwL {a0:(List Int)}{y:(List Int)}(h:Yt a0=some y):G55 (E55 a0)=some (R55 a0 y):=YY E55i h
noncomputable abbrev K98:=cn (a1 (eG eapi_OutPoint)) (r1 eB) Zj0
noncomputable abbrev K56:=cn (a1 (eG ZX)) (r1 eB) ZcZ
noncomputable abbrev K36:=cn (a1 (eG YV)) (r1 (oS 1 XX)) Zbr
noncomputable abbrev K19:Con Tapi_Block (Tapi_Filter×Int):=cn (a1 (eG YV)) (r2 (eG ZaL) (eI .i64)) ZdW
noncomputable abbrev K6:Con (Int×(List Int)) (Tapi_FilterChain×(List Tapi_Filter)×Bool):=cn (a2 (eI .u8) (eL .u8)) (r3 (eG Z8) (eS ZaL) eB) (u2 Zes)
noncomputable abbrev K10:=cn (a2 (eS (arC .u8)) (eS (arC .u8))) (r1 eB) (u2 ZhW)
noncomputable abbrev K12:Con (Tapi_FilterChain×Int) (Tapi_FilterChain×Int):=cn (a2 (eG Z8) (eI .i64)) (r2 (eG Z8) (eI .i64)) (u2 Y7)
noncomputable abbrev K28:=cn (a2 (eS (arC .u8)) (eS (arC .u8))) (r1 eB) (u2 X0)
noncomputable abbrev K13:=cn (a2 (eG Z8) (eG Z8)) (r1 eB) (u2 ZdZ)
noncomputable abbrev K14:=cn (a2 (eG Z8) (eS (arC .u8))) (r1 (eI .i64)) (u2 Y8)
noncomputable abbrev K15:Con (Tapi_FilterChain×(List (Arr 32))×(List (Arr 32))) (Tapi_FilterChain×Int):=cn (a3 (eG Z8) (eS (arC .u8)) (eS (arC .u8))) (r2 (eG Z8) (eI .i64)) (u3 Zac)
def E4 (x:Int×(List Int)×(List (Arr 32))×(List (Arr 32))×Int):List PV:=[.one (.v (.int .u8 x.1)),.one (.slice .no (Zg .u8 x.2.1)),.one (.slice .no (List.map (arC .u8) x.2.2.1)),.one (.slice .no (List.map (arC .u8) x.2.2.2.1)),.one (.v (.int .u8 x.2.2.2.2))]
theorem E4i:∀ a b,E4 a=E4 b→a=b:=by
  rintro⟨a0,a1,a2,a3,a4⟩ ⟨b0,b1,b2,b3,b4⟩ h
  simpa[E4,and_assoc] using h
def R4 (x:Int×(List Int)×(List (Arr 32))×(List (Arr 32))×Int) (y:Bool):PV×List (List Cell):=(.one (.v (.bool y)),[])
noncomputable def G4:=Zae E4 fun x=>(YE x.1 x.2.1 x.2.2.1 x.2.2.2.1 x.2.2.2.2).map (R4 x)
theorem ZxC {a0:Int}{a1:(List Int)}{a2:(List (Arr 32))}{a3:(List (Arr 32))}{a4:Int}{y:Bool}(h:YE a0 a1 a2 a3 a4=some y):G4 (E4 (a0,a1,a2,a3,a4))=some (R4 (a0,a1,a2,a3,a4) y):=YY E4i h
theorem rg {tt:TT}{T:Tab}{G:Glob}{a b:List Oper}{st st1:ASt}(h:Zct tt T G a b st=some st1:=by
  first
    | (simp[-Int.ofNat_toNat,ZE, *] <;> first | rfl | (repeat (simp(disch:=omega) only[leT,ltT,Zjd,Zje,leF,ltF,Zjf,Zjg,Zba]; try simp[-Int.ofNat_toNat,ZE, *])) <;> rfl)
    | fail):Zct tt T G a b st=some st1:=h
theorem dr {tt:TT}{T:Tab}{G:Glob}{a b:List Oper}{st st1:ASt}{fs:List Foot}(h:ZcR tt T G a b st=some (st1,fs):=by
  first
    | (simp[-Int.ofNat_toNat,ZE, *] <;> first | exact⟨rfl,rfl⟩ | rfl | (repeat (simp(disch:=omega) only[leT,ltT,Zjd,Zje,leF,ltF,Zjf,Zjg,Zba]; try simp[-Int.ofNat_toNat,ZE, *])) <;> first | exact⟨rfl,rfl⟩ | rfl)
    | fail):ZcR tt T G a b st=some (st1,fs):=h
theorem rgA {tt:TT}{T:Tab}{G:Glob}{a b:List Oper}{st st1:ASt}(h:Zct tt T G a b st=some st1:=by
  first
    | (simp[-Int.ofNat_toNat,Nat.add_assoc,ZE, *] <;> first | rfl | (repeat (simp(disch:=omega) only[leT,ltT,Zjd,Zje,leF,ltF,Zjf,Zjg,Zba]; try simp[-Int.ofNat_toNat,Nat.add_assoc,ZE, *])) <;> rfl)
    | fail):Zct tt T G a b st=some st1:=h
theorem drA {tt:TT}{T:Tab}{G:Glob}{a b:List Oper}{st st1:ASt}{fs:List Foot}(h:ZcR tt T G a b st=some (st1,fs):=by
  first
    | (simp[-Int.ofNat_toNat,Nat.add_assoc,ZE, *] <;> first | exact⟨rfl,rfl⟩ | rfl | (repeat (simp(disch:=omega) only[leT,ltT,Zjd,Zje,leF,ltF,Zjf,Zjg,Zba]; try simp[-Int.ofNat_toNat,Nat.add_assoc,ZE, *])) <;> first | exact⟨rfl,rfl⟩ | rfl)
    | fail):ZcR tt T G a b st=some (st1,fs):=h
theorem rgAD {tt:TT}{T:Tab}{G:Glob}{a b:List Oper}{st st1:ASt}(h:Zct tt T G a b st=some st1:=by
  first
    | (simp[-Int.ofNat_toNat,Nat.add_assoc,-Int.natCast_tdiv_eq_ediv,ZE, *] <;> first | rfl | (repeat (simp(disch:=omega) only[leT,ltT,Zjd,Zje,leF,ltF,Zjf,Zjg,Zba]; try simp[-Int.ofNat_toNat,Nat.add_assoc,-Int.natCast_tdiv_eq_ediv,ZE, *])) <;> rfl)
    | fail):Zct tt T G a b st=some st1:=h
theorem drAD {tt:TT}{T:Tab}{G:Glob}{a b:List Oper}{st st1:ASt}{fs:List Foot}(h:ZcR tt T G a b st=some (st1,fs):=by
  first
    | (simp[-Int.ofNat_toNat,Nat.add_assoc,-Int.natCast_tdiv_eq_ediv,ZE, *] <;> first | exact⟨rfl,rfl⟩ | rfl | (repeat (simp(disch:=omega) only[leT,ltT,Zjd,Zje,leF,ltF,Zjf,Zjg,Zba]; try simp[-Int.ofNat_toNat,Nat.add_assoc,-Int.natCast_tdiv_eq_ediv,ZE, *])) <;> first | exact⟨rfl,rfl⟩ | rfl)
    | fail):ZcR tt T G a b st=some (st1,fs):=h
theorem ZtF {tt:TT}{T:Tab}{G:Glob}{a b:List Oper}{st st1:ASt}(h:Zct tt T G a b st=some st1:=by
  first
    | (simp[-Int.ofNat_toNat,Nat.add_assoc,-Int.natCast_tdiv_eq_ediv,List.range,List.range.loop,-Yy,-List.take_append,-List.drop_append,ZE, *] <;> first | rfl | (repeat (simp(disch:=omega) only[leT,ltT,Zjd,Zje,leF,ltF,Zjf,Zjg,Zba]; try simp[-Int.ofNat_toNat,Nat.add_assoc,-Int.natCast_tdiv_eq_ediv,List.range,List.range.loop,-Yy,-List.take_append,-List.drop_append,ZE, *])) <;> rfl)
    | fail):Zct tt T G a b st=some st1:=h
theorem ZtG {tt:TT}{T:Tab}{G:Glob}{a b:List Oper}{st st1:ASt}{fs:List Foot}(h:ZcR tt T G a b st=some (st1,fs):=by
  first
    | (simp[-Int.ofNat_toNat,Nat.add_assoc,-Int.natCast_tdiv_eq_ediv,List.range,List.range.loop,-Yy,-List.take_append,-List.drop_append,ZE, *] <;> first | exact⟨rfl,rfl⟩ | rfl | (repeat (simp(disch:=omega) only[leT,ltT,Zjd,Zje,leF,ltF,Zjf,Zjg,Zba]; try simp[-Int.ofNat_toNat,Nat.add_assoc,-Int.natCast_tdiv_eq_ediv,List.range,List.range.loop,-Yy,-List.take_append,-List.drop_append,ZE, *])) <;> first | exact⟨rfl,rfl⟩ | rfl)
    | fail):ZcR tt T G a b st=some (st1,fs):=h
theorem rgL {tt:TT}{T:Tab}{G:Glob}{a b:List Oper}{st st1:ASt}(h:Zct tt T G a b st=some st1:=by
  first
    | (simp[-Int.ofNat_toNat,-Zs,Zo,ZE, *] <;> first | rfl | (repeat (simp(disch:=omega) only[leT,ltT,Zjd,Zje,leF,ltF,Zjf,Zjg,Zba]; try simp[-Int.ofNat_toNat,-Zs,Zo,ZE, *])) <;> rfl)
    | fail):Zct tt T G a b st=some st1:=h
theorem drL {tt:TT}{T:Tab}{G:Glob}{a b:List Oper}{st st1:ASt}{fs:List Foot}(h:ZcR tt T G a b st=some (st1,fs):=by
  first
    | (simp[-Int.ofNat_toNat,-Zs,Zo,ZE, *] <;> first | exact⟨rfl,rfl⟩ | rfl | (repeat (simp(disch:=omega) only[leT,ltT,Zjd,Zje,leF,ltF,Zjf,Zjg,Zba]; try simp[-Int.ofNat_toNat,-Zs,Zo,ZE, *])) <;> first | exact⟨rfl,rfl⟩ | rfl)
    | fail):ZcR tt T G a b st=some (st1,fs):=h
theorem rgR {tt:TT}{T:Tab}{G:Glob}{a b:List Oper}{st st1:ASt}(h:Zct tt T G a b st=some st1:=by
  first
    | (simp[-Int.ofNat_toNat,List.range,List.range.loop,ZE, *] <;> first | rfl | (repeat (simp(disch:=omega) only[leT,ltT,Zjd,Zje,leF,ltF,Zjf,Zjg,Zba]; try simp[-Int.ofNat_toNat,List.range,List.range.loop,ZE, *])) <;> rfl)
    | fail):Zct tt T G a b st=some st1:=h
theorem drR {tt:TT}{T:Tab}{G:Glob}{a b:List Oper}{st st1:ASt}{fs:List Foot}(h:ZcR tt T G a b st=some (st1,fs):=by
  first
    | (simp[-Int.ofNat_toNat,List.range,List.range.loop,ZE, *] <;> first | exact⟨rfl,rfl⟩ | rfl | (repeat (simp(disch:=omega) only[leT,ltT,Zjd,Zje,leF,ltF,Zjf,Zjg,Zba]; try simp[-Int.ofNat_toNat,List.range,List.range.loop,ZE, *])) <;> first | exact⟨rfl,rfl⟩ | rfl)
    | fail):ZcR tt T G a b st=some (st1,fs):=h
theorem au {P:Prop}{R1 R2 R3:Prop}(k1:R1:=by exact trivial) (k2:R2:=by exact trivial) (k3:R3:=by exact trivial) (t:∀ X1:Prop,X1→ZaX X1 R1→∀ X2:Prop,X2→ZaX X2 R2→∀ X3:Prop,X3→ZaX X3 R3→P:=by
  intro X1 x1 e1 X2 x2 e2 X3 x3 e3;try simp only[upd,ZhZ,updB,setB,List.foldl,List.set,und,List.replicate,List.cons_append,List.nil_append,reduceIte,Nat.lt_irrefl,Nat.reduceLT]
  repeat' (first
    | (with_reducible refine ZjD ?_)
    | (with_reducible refine ZjC (by assumption) ?_)
    | ((with_reducible refine Zj5 ?_); intro v f f f)
    | (with_reducible refine Zin (by assumption) ?_)
    | ((with_reducible refine ZkK ?_); intro f; try simp only[List.length_replicate,List.length_set,List.length_take,List.length_drop,List.length_append] at f)
    | ((with_reducible refine ZjB ?_); intro v f f; try simp only[Con.Q,kS,nf,nfs,Yp,E25,R25,Zgy,ZiC,E58,R58,E68,R68,Zji,ZkC,Zjj,ZkD,Zgz,ZiD,ZgA,ZiE,Zhn,Zjk,Zho,Zjl,E30_1,E129_2,E130_3,Zjm,Zlu,Zcp,Zeu,Zcq,Zev,E55,R55,List.length_replicate,List.length_set] at f)
    | ((with_reducible refine ZkN ?_); intro e; subst e; refine ZjF ?_)
    | ((with_reducible refine ZkM ?_); intro v e; (try rw[e]))
    | (with_reducible refine Zhs ?_)
    | (with_reducible exact im_none)
    | (with_reducible exact Zio)
    | ((with_reducible refine Zad ?_); (repeat (first | revert f | revert g | revert e | revert v)); exact ZfD e1 x1)
    | ((with_reducible refine Zad ?_); (repeat (first | revert f | revert g | revert e | revert v)); exact ZfD e2 x2)
    | ((with_reducible refine Zad ?_); (repeat (first | revert f | revert g | revert e | revert v)); exact ZfD e3 x3)
    | (with_reducible refine ZeQ ?_)
    | (with_reducible refine ZbI ?_)
    | (with_reducible refine ZaY ?_)
    | (with_reducible refine ZbJ ?_)
    | (with_reducible refine Zcx ?_)
    | (with_reducible refine ZeR ?_)
    | (with_reducible refine Zgm ?_)
    | (with_reducible refine Zgn ?_)
    | (with_reducible refine ZhY ?_)
    | ((with_reducible refine YF ?_ ?_); · simp[-Int.ofNat_toNat,bV, *]; done)
    | ((with_reducible refine YG ?_ ?_); · simp[-Int.ofNat_toNat,bV, *]; done)
    | (refine Zcw rfl rg ?_)
    | (refine ZbH rfl dr (by kernel_rfl) ?_)
    | ((with_reducible refine Zax ?_ ?_); · simp[-Int.ofNat_toNat,bV, *]; done)
    | ((with_reducible refine Zay ?_ ?_); · simp[-Int.ofNat_toNat,bV, *]; done)
    | (refine ZhX rfl rg ?_)
    | (refine Zgl rfl dr (by kernel_rfl) ?_)
    | (refine ZeS ?_ (by simp only[pq,reduceCtorEq]; rfl))
    | (refine ZeS ?_ (if_neg (by decide)))
    | (with_reducible refine Zet (by assumption) ?_)
    | (with_reducible refine Zet (of_eq_true (by assumption)) ?_)
    | (with_reducible refine Zj6 (by assumption) ?_)
    | (with_reducible refine ZcQ (by assumption) ?_)
    | (with_reducible refine ZcQ (of_eq_true (by assumption)) ?_)
    | (with_reducible refine Zip (by assumption) ?_)
    | (with_reducible refine ZjE ?_)
    | (with_reducible refine Ziq ?_)
    | (with_reducible refine Zir ?_)
    | ((with_reducible refine Zmn ?_ ?_) <;> (intro f; (try replace f:=Classical.not_not.1 f); have g:=nrm f; try replace f:=eqI f))
    | ((with_reducible refine ZkL ?_ ?_) <;> (intro f; (try replace f:=Classical.not_not.1 f); have g:=nrm f; try replace f:=eqI f))
    | ((with_reducible refine YF ?_ ?_); · simp[-Int.ofNat_toNat,bV, *]; omega)
    | ((with_reducible refine YG ?_ ?_); · simp[-Int.ofNat_toNat,bV, *]; omega)
    | ((with_reducible refine Zax ?_ ?_); · simp[-Int.ofNat_toNat,bV, *]; omega)
    | ((with_reducible refine Zay ?_ ?_); · simp[-Int.ofNat_toNat,bV, *]; omega)
    | ((with_reducible refine Zmo ?_); intro e; (try rw[e]))
    | ((fail_if_success (have:v=true:=by assumption)); (fail_if_success (have:v=false:=by assumption)); (with_reducible refine ZjG v ?_ ?_) <;> (intro f; try (exfalso; simp_all; done)))
    | (intro _; simp[-Int.ofNat_toNat,YW,ZE, *]; done)
    | (intro _; simp only[pq,reduceCtorEq]; simp[-Int.ofNat_toNat,und,List.replicate,Nat.add_assoc,upd,ZhZ,updB, *]; done))):P:=t R1 k1 ⟨rfl⟩ R2 k2 ⟨rfl⟩ R3 k3 ⟨rfl⟩
theorem auA {P:Prop}{R1 R2 R3:Prop}(k1:R1:=by exact trivial) (k2:R2:=by exact trivial) (k3:R3:=by exact trivial) (t:∀ X1:Prop,X1→ZaX X1 R1→∀ X2:Prop,X2→ZaX X2 R2→∀ X3:Prop,X3→ZaX X3 R3→P:=by
  intro X1 x1 e1 X2 x2 e2 X3 x3 e3;try simp only[upd,ZhZ,updB,setB,List.foldl,List.set,und,List.replicate,List.cons_append,List.nil_append,reduceIte,Nat.lt_irrefl,Nat.reduceLT]
  repeat' (first
    | (with_reducible refine ZjD ?_)
    | (with_reducible refine ZjC (by assumption) ?_)
    | ((with_reducible refine Zj5 ?_); intro v f f f)
    | (with_reducible refine Zin (by assumption) ?_)
    | ((with_reducible refine ZkK ?_); intro f; try simp only[List.length_replicate,List.length_set,List.length_take,List.length_drop,List.length_append] at f)
    | ((with_reducible refine ZjB ?_); intro v f f; try simp only[Con.Q,kS,nf,nfs,Yp,E25,R25,Zgy,ZiC,E58,R58,E68,R68,Zji,ZkC,Zjj,ZkD,Zgz,ZiD,ZgA,ZiE,Zhn,Zjk,Zho,Zjl,E30_1,E129_2,E130_3,Zjm,Zlu,Zcp,Zeu,Zcq,Zev,E55,R55,List.length_replicate,List.length_set] at f)
    | ((with_reducible refine ZkN ?_); intro e; subst e; refine ZjF ?_)
    | ((with_reducible refine ZkM ?_); intro v e; (try rw[e]))
    | (with_reducible refine Zhs ?_)
    | (with_reducible exact im_none)
    | (with_reducible exact Zio)
    | ((with_reducible refine Zad ?_); (repeat (first | revert f | revert g | revert e | revert v)); exact ZfD e1 x1)
    | ((with_reducible refine Zad ?_); (repeat (first | revert f | revert g | revert e | revert v)); exact ZfD e2 x2)
    | ((with_reducible refine Zad ?_); (repeat (first | revert f | revert g | revert e | revert v)); exact ZfD e3 x3)
    | (with_reducible refine ZeQ ?_)
    | (with_reducible refine ZbI ?_)
    | (with_reducible refine ZaY ?_)
    | (with_reducible refine ZbJ ?_)
    | (with_reducible refine Zcx ?_)
    | (with_reducible refine ZeR ?_)
    | (with_reducible refine Zgm ?_)
    | (with_reducible refine Zgn ?_)
    | (with_reducible refine ZhY ?_)
    | ((with_reducible refine YF ?_ ?_); · simp[-Int.ofNat_toNat,bV, *]; done)
    | ((with_reducible refine YG ?_ ?_); · simp[-Int.ofNat_toNat,bV, *]; done)
    | (refine Zcw rfl rgA ?_)
    | (refine ZbH rfl drA (by kernel_rfl) ?_)
    | ((with_reducible refine Zax ?_ ?_); · simp[-Int.ofNat_toNat,bV, *]; done)
    | ((with_reducible refine Zay ?_ ?_); · simp[-Int.ofNat_toNat,bV, *]; done)
    | (refine ZhX rfl rgA ?_)
    | (refine Zgl rfl drA (by kernel_rfl) ?_)
    | (refine ZeS ?_ (by simp only[pq,reduceCtorEq]; rfl))
    | (refine ZeS ?_ (if_neg (by decide)))
    | (with_reducible refine Zet (by assumption) ?_)
    | (with_reducible refine Zet (of_eq_true (by assumption)) ?_)
    | (with_reducible refine Zj6 (by assumption) ?_)
    | (with_reducible refine ZcQ (by assumption) ?_)
    | (with_reducible refine ZcQ (of_eq_true (by assumption)) ?_)
    | (with_reducible refine Zip (by assumption) ?_)
    | (with_reducible refine ZjE ?_)
    | (with_reducible refine Ziq ?_)
    | (with_reducible refine Zir ?_)
    | ((with_reducible refine Zmn ?_ ?_) <;> (intro f; (try replace f:=Classical.not_not.1 f); have g:=nrm f; try replace f:=eqI f))
    | ((with_reducible refine ZkL ?_ ?_) <;> (intro f; (try replace f:=Classical.not_not.1 f); have g:=nrm f; try replace f:=eqI f))
    | ((with_reducible refine YF ?_ ?_); · simp[-Int.ofNat_toNat,bV, *]; omega)
    | ((with_reducible refine YG ?_ ?_); · simp[-Int.ofNat_toNat,bV, *]; omega)
    | ((with_reducible refine Zax ?_ ?_); · simp[-Int.ofNat_toNat,bV, *]; omega)
    | ((with_reducible refine Zay ?_ ?_); · simp[-Int.ofNat_toNat,bV, *]; omega)
    | ((with_reducible refine Zmo ?_); intro e; (try rw[e]))
    | ((fail_if_success (have:v=true:=by assumption)); (fail_if_success (have:v=false:=by assumption)); (with_reducible refine ZjG v ?_ ?_) <;> (intro f; try (exfalso; simp_all; done)))
    | (intro _; simp[-Int.ofNat_toNat,YW,ZE, *]; done)
    | (intro _; simp only[pq,reduceCtorEq]; simp[-Int.ofNat_toNat,und,List.replicate,Nat.add_assoc,upd,ZhZ,updB, *]; done))):P:=t R1 k1 ⟨rfl⟩ R2 k2 ⟨rfl⟩ R3 k3 ⟨rfl⟩
theorem Zh3 {P:Prop}{R1 R2 R3:Prop}(k1:R1:=by exact trivial) (k2:R2:=by exact trivial) (k3:R3:=by exact trivial) (t:∀ X1:Prop,X1→ZaX X1 R1→∀ X2:Prop,X2→ZaX X2 R2→∀ X3:Prop,X3→ZaX X3 R3→P:=by
  intro X1 x1 e1 X2 x2 e2 X3 x3 e3;try simp only[upd,ZhZ,updB,setB,List.foldl,List.set,und,List.replicate,List.cons_append,List.nil_append,reduceIte,Nat.lt_irrefl,Nat.reduceLT]
  repeat' (first
    | (with_reducible refine ZjD ?_)
    | (with_reducible refine ZjC (by assumption) ?_)
    | ((with_reducible refine Zj5 ?_); intro v f f f)
    | (with_reducible refine Zin (by assumption) ?_)
    | ((with_reducible refine ZkK ?_); intro f; try simp only[List.length_replicate,List.length_set,List.length_take,List.length_drop,List.length_append] at f)
    | ((with_reducible refine ZjB ?_); intro v f f; try simp only[Con.Q,kS,nf,nfs,Yp,E25,R25,Zgy,ZiC,E58,R58,E68,R68,Zji,ZkC,Zjj,ZkD,Zgz,ZiD,ZgA,ZiE,Zhn,Zjk,Zho,Zjl,E30_1,E129_2,E130_3,Zjm,Zlu,Zcp,Zeu,Zcq,Zev,E55,R55,List.length_replicate,List.length_set] at f)
    | ((with_reducible refine ZkN ?_); intro e; subst e; refine ZjF ?_)
    | ((with_reducible refine ZkM ?_); intro v e; (try rw[e]))
    | (with_reducible refine Zhs ?_)
    | (with_reducible exact im_none)
    | (with_reducible exact Zio)
    | ((with_reducible refine Zad ?_); (repeat (first | revert f | revert g | revert e | revert v)); exact ZfD e1 x1)
    | ((with_reducible refine Zad ?_); (repeat (first | revert f | revert g | revert e | revert v)); exact ZfD e2 x2)
    | ((with_reducible refine Zad ?_); (repeat (first | revert f | revert g | revert e | revert v)); exact ZfD e3 x3)
    | (with_reducible refine ZeQ ?_)
    | (with_reducible refine ZbI ?_)
    | (with_reducible refine ZaY ?_)
    | (with_reducible refine ZbJ ?_)
    | (with_reducible refine Zcx ?_)
    | (with_reducible refine ZeR ?_)
    | (with_reducible refine Zgm ?_)
    | (with_reducible refine Zgn ?_)
    | (with_reducible refine ZhY ?_)
    | ((with_reducible refine YF ?_ ?_); · simp[-Int.ofNat_toNat,bV, *]; done)
    | ((with_reducible refine YG ?_ ?_); · simp[-Int.ofNat_toNat,bV, *]; done)
    | (refine Zcw rfl rgAD ?_)
    | (refine ZbH rfl drAD (by kernel_rfl) ?_)
    | ((with_reducible refine Zax ?_ ?_); · simp[-Int.ofNat_toNat,bV, *]; done)
    | ((with_reducible refine Zay ?_ ?_); · simp[-Int.ofNat_toNat,bV, *]; done)
    | (refine ZhX rfl rgAD ?_)
    | (refine Zgl rfl drAD (by kernel_rfl) ?_)
    | (refine ZeS ?_ (by simp only[pq,reduceCtorEq]; rfl))
    | (refine ZeS ?_ (if_neg (by decide)))
    | (with_reducible refine Zet (by assumption) ?_)
    | (with_reducible refine Zet (of_eq_true (by assumption)) ?_)
    | (with_reducible refine Zj6 (by assumption) ?_)
    | (with_reducible refine ZcQ (by assumption) ?_)
    | (with_reducible refine ZcQ (of_eq_true (by assumption)) ?_)
    | (with_reducible refine Zip (by assumption) ?_)
    | (with_reducible refine ZjE ?_)
    | (with_reducible refine Ziq ?_)
    | (with_reducible refine Zir ?_)
    | ((with_reducible refine Zmn ?_ ?_) <;> (intro f; (try replace f:=Classical.not_not.1 f); have g:=nrm f; try replace f:=eqI f))
    | ((with_reducible refine ZkL ?_ ?_) <;> (intro f; (try replace f:=Classical.not_not.1 f); have g:=nrm f; try replace f:=eqI f))
    | ((with_reducible refine YF ?_ ?_); · simp[-Int.ofNat_toNat,bV, *]; omega)
    | ((with_reducible refine YG ?_ ?_); · simp[-Int.ofNat_toNat,bV, *]; omega)
    | ((with_reducible refine Zax ?_ ?_); · simp[-Int.ofNat_toNat,bV, *]; omega)
    | ((with_reducible refine Zay ?_ ?_); · simp[-Int.ofNat_toNat,bV, *]; omega)
    | ((with_reducible refine Zmo ?_); intro e; (try rw[e]))
    | ((fail_if_success (have:v=true:=by assumption)); (fail_if_success (have:v=false:=by assumption)); (with_reducible refine ZjG v ?_ ?_) <;> (intro f; try (exfalso; simp_all; done)))
    | (intro _; simp[-Int.ofNat_toNat,YW,ZE, *]; done)
    | (intro _; simp only[pq,reduceCtorEq]; simp[-Int.ofNat_toNat,und,List.replicate,Nat.add_assoc,upd,ZhZ,updB, *]; done))):P:=t R1 k1 ⟨rfl⟩ R2 k2 ⟨rfl⟩ R3 k3 ⟨rfl⟩
theorem Zqd {P:Prop}{R1 R2 R3:Prop}(k1:R1:=by exact trivial) (k2:R2:=by exact trivial) (k3:R3:=by exact trivial) (t:∀ X1:Prop,X1→ZaX X1 R1→∀ X2:Prop,X2→ZaX X2 R2→∀ X3:Prop,X3→ZaX X3 R3→P:=by
  intro X1 x1 e1 X2 x2 e2 X3 x3 e3;try simp only[upd,ZhZ,updB,setB,List.foldl,List.set,und,List.replicate,List.cons_append,List.nil_append,reduceIte,Nat.lt_irrefl,Nat.reduceLT]
  repeat' (first
    | (with_reducible refine ZjD ?_)
    | (with_reducible refine ZjC (by assumption) ?_)
    | ((with_reducible refine Zj5 ?_); intro v f f f)
    | (with_reducible refine Zin (by assumption) ?_)
    | ((with_reducible refine ZkK ?_); intro f; try simp only[List.length_replicate,List.length_set,List.length_take,List.length_drop,List.length_append] at f)
    | ((with_reducible refine ZjB ?_); intro v f f; try simp only[Con.Q,kS,nf,nfs,Yp,E25,R25,Zgy,ZiC,E58,R58,E68,R68,Zji,ZkC,Zjj,ZkD,Zgz,ZiD,ZgA,ZiE,Zhn,Zjk,Zho,Zjl,E30_1,E129_2,E130_3,Zjm,Zlu,Zcp,Zeu,Zcq,Zev,E55,R55,List.length_replicate,List.length_set] at f)
    | ((with_reducible refine ZkN ?_); intro e; subst e; refine ZjF ?_)
    | ((with_reducible refine ZkM ?_); intro v e; (try rw[e]))
    | (with_reducible refine Zhs ?_)
    | (with_reducible exact im_none)
    | (with_reducible exact Zio)
    | ((with_reducible refine Zad ?_); (repeat (first | revert f | revert g | revert e | revert v)); exact ZfD e1 x1)
    | ((with_reducible refine Zad ?_); (repeat (first | revert f | revert g | revert e | revert v)); exact ZfD e2 x2)
    | ((with_reducible refine Zad ?_); (repeat (first | revert f | revert g | revert e | revert v)); exact ZfD e3 x3)
    | (with_reducible refine ZeQ ?_)
    | (with_reducible refine ZbI ?_)
    | (with_reducible refine ZaY ?_)
    | (with_reducible refine ZbJ ?_)
    | (with_reducible refine Zcx ?_)
    | (with_reducible refine ZeR ?_)
    | (with_reducible refine Zgm ?_)
    | (with_reducible refine Zgn ?_)
    | (with_reducible refine ZhY ?_)
    | ((with_reducible refine YF ?_ ?_); · simp[-Int.ofNat_toNat,bV, *]; done)
    | ((with_reducible refine YG ?_ ?_); · simp[-Int.ofNat_toNat,bV, *]; done)
    | (refine Zcw rfl ZtF ?_)
    | (refine ZbH rfl ZtG (by kernel_rfl) ?_)
    | ((with_reducible refine Zax ?_ ?_); · simp[-Int.ofNat_toNat,bV, *]; done)
    | ((with_reducible refine Zay ?_ ?_); · simp[-Int.ofNat_toNat,bV, *]; done)
    | (refine ZhX rfl ZtF ?_)
    | (refine Zgl rfl ZtG (by kernel_rfl) ?_)
    | (refine ZeS ?_ (by simp only[pq,reduceCtorEq]; rfl))
    | (refine ZeS ?_ (if_neg (by decide)))
    | (with_reducible refine Zet (by assumption) ?_)
    | (with_reducible refine Zet (of_eq_true (by assumption)) ?_)
    | (with_reducible refine Zj6 (by assumption) ?_)
    | (with_reducible refine ZcQ (by assumption) ?_)
    | (with_reducible refine ZcQ (of_eq_true (by assumption)) ?_)
    | (with_reducible refine Zip (by assumption) ?_)
    | (with_reducible refine ZjE ?_)
    | (with_reducible refine Ziq ?_)
    | (with_reducible refine Zir ?_)
    | ((with_reducible refine Zmn ?_ ?_) <;> (intro f; (try replace f:=Classical.not_not.1 f); have g:=nrm f; try replace f:=eqI f))
    | ((with_reducible refine ZkL ?_ ?_) <;> (intro f; (try replace f:=Classical.not_not.1 f); have g:=nrm f; try replace f:=eqI f))
    | ((with_reducible refine YF ?_ ?_); · simp[-Int.ofNat_toNat,bV, *]; omega)
    | ((with_reducible refine YG ?_ ?_); · simp[-Int.ofNat_toNat,bV, *]; omega)
    | ((with_reducible refine Zax ?_ ?_); · simp[-Int.ofNat_toNat,bV, *]; omega)
    | ((with_reducible refine Zay ?_ ?_); · simp[-Int.ofNat_toNat,bV, *]; omega)
    | ((with_reducible refine Zmo ?_); intro e; (try rw[e]))
    | ((fail_if_success (have:v=true:=by assumption)); (fail_if_success (have:v=false:=by assumption)); (with_reducible refine ZjG v ?_ ?_) <;> (intro f; try (exfalso; simp_all; done)))
    | (intro _; simp[-Int.ofNat_toNat,YW,ZE, *]; done)
    | (intro _; simp only[pq,reduceCtorEq]; simp[-Int.ofNat_toNat,und,List.replicate,Nat.add_assoc,upd,ZhZ,updB, *]; done))):P:=t R1 k1 ⟨rfl⟩ R2 k2 ⟨rfl⟩ R3 k3 ⟨rfl⟩
theorem auL {P:Prop}{R1 R2 R3:Prop}(k1:R1:=by exact trivial) (k2:R2:=by exact trivial) (k3:R3:=by exact trivial) (t:∀ X1:Prop,X1→ZaX X1 R1→∀ X2:Prop,X2→ZaX X2 R2→∀ X3:Prop,X3→ZaX X3 R3→P:=by
  intro X1 x1 e1 X2 x2 e2 X3 x3 e3;try simp only[upd,ZhZ,updB,setB,List.foldl,List.set,und,List.replicate,List.cons_append,List.nil_append,reduceIte,Nat.lt_irrefl,Nat.reduceLT]
  repeat' (first
    | (with_reducible refine ZjD ?_)
    | (with_reducible refine ZjC (by assumption) ?_)
    | ((with_reducible refine Zj5 ?_); intro v f f f)
    | (with_reducible refine Zin (by assumption) ?_)
    | ((with_reducible refine ZkK ?_); intro f; try simp only[List.length_replicate,List.length_set,List.length_take,List.length_drop,List.length_append] at f)
    | ((with_reducible refine ZjB ?_); intro v f f; try simp only[Con.Q,kS,nf,nfs,Yp,E25,R25,Zgy,ZiC,E58,R58,E68,R68,Zji,ZkC,Zjj,ZkD,Zgz,ZiD,ZgA,ZiE,Zhn,Zjk,Zho,Zjl,E30_1,E129_2,E130_3,Zjm,Zlu,Zcp,Zeu,Zcq,Zev,E55,R55,List.length_replicate,List.length_set] at f)
    | ((with_reducible refine ZkN ?_); intro e; subst e; refine ZjF ?_)
    | ((with_reducible refine ZkM ?_); intro v e; (try rw[e]))
    | (with_reducible refine Zhs ?_)
    | (with_reducible exact im_none)
    | (with_reducible exact Zio)
    | ((with_reducible refine Zad ?_); (repeat (first | revert f | revert g | revert e | revert v)); exact ZfD e1 x1)
    | ((with_reducible refine Zad ?_); (repeat (first | revert f | revert g | revert e | revert v)); exact ZfD e2 x2)
    | ((with_reducible refine Zad ?_); (repeat (first | revert f | revert g | revert e | revert v)); exact ZfD e3 x3)
    | (with_reducible refine ZeQ ?_)
    | (with_reducible refine ZbI ?_)
    | (with_reducible refine ZaY ?_)
    | (with_reducible refine ZbJ ?_)
    | (with_reducible refine Zcx ?_)
    | (with_reducible refine ZeR ?_)
    | (with_reducible refine Zgm ?_)
    | (with_reducible refine Zgn ?_)
    | (with_reducible refine ZhY ?_)
    | ((with_reducible refine YF ?_ ?_); · simp[-Int.ofNat_toNat,bV, *]; done)
    | ((with_reducible refine YG ?_ ?_); · simp[-Int.ofNat_toNat,bV, *]; done)
    | (refine Zcw rfl rgL ?_)
    | (refine ZbH rfl drL (by kernel_rfl) ?_)
    | ((with_reducible refine Zax ?_ ?_); · simp[-Int.ofNat_toNat,bV, *]; done)
    | ((with_reducible refine Zay ?_ ?_); · simp[-Int.ofNat_toNat,bV, *]; done)
    | (refine ZhX rfl rgL ?_)
    | (refine Zgl rfl drL (by kernel_rfl) ?_)
    | (refine ZeS ?_ (by simp only[pq,reduceCtorEq]; rfl))
    | (refine ZeS ?_ (if_neg (by decide)))
    | (with_reducible refine Zet (by assumption) ?_)
    | (with_reducible refine Zet (of_eq_true (by assumption)) ?_)
    | (with_reducible refine Zj6 (by assumption) ?_)
    | (with_reducible refine ZcQ (by assumption) ?_)
    | (with_reducible refine ZcQ (of_eq_true (by assumption)) ?_)
    | (with_reducible refine Zip (by assumption) ?_)
    | (with_reducible refine ZjE ?_)
    | (with_reducible refine Ziq ?_)
    | (with_reducible refine Zir ?_)
    | ((with_reducible refine Zmn ?_ ?_) <;> (intro f; (try replace f:=Classical.not_not.1 f); have g:=nrm f; try replace f:=eqI f))
    | ((with_reducible refine ZkL ?_ ?_) <;> (intro f; (try replace f:=Classical.not_not.1 f); have g:=nrm f; try replace f:=eqI f))
    | ((with_reducible refine YF ?_ ?_); · simp[-Int.ofNat_toNat,bV, *]; omega)
    | ((with_reducible refine YG ?_ ?_); · simp[-Int.ofNat_toNat,bV, *]; omega)
    | ((with_reducible refine Zax ?_ ?_); · simp[-Int.ofNat_toNat,bV, *]; omega)
    | ((with_reducible refine Zay ?_ ?_); · simp[-Int.ofNat_toNat,bV, *]; omega)
    | ((with_reducible refine Zmo ?_); intro e; (try rw[e]))
    | ((fail_if_success (have:v=true:=by assumption)); (fail_if_success (have:v=false:=by assumption)); (with_reducible refine ZjG v ?_ ?_) <;> (intro f; try (exfalso; simp_all; done)))
    | (intro _; simp[-Int.ofNat_toNat,YW,ZE, *]; done)
    | (intro _; simp only[pq,reduceCtorEq]; simp[-Int.ofNat_toNat,und,List.replicate,Nat.add_assoc,upd,ZhZ,updB, *]; done))):P:=t R1 k1 ⟨rfl⟩ R2 k2 ⟨rfl⟩ R3 k3 ⟨rfl⟩
theorem auR {P:Prop}{R1 R2 R3:Prop}(k1:R1:=by exact trivial) (k2:R2:=by exact trivial) (k3:R3:=by exact trivial) (t:∀ X1:Prop,X1→ZaX X1 R1→∀ X2:Prop,X2→ZaX X2 R2→∀ X3:Prop,X3→ZaX X3 R3→P:=by
  intro X1 x1 e1 X2 x2 e2 X3 x3 e3;try simp only[upd,ZhZ,updB,setB,List.foldl,List.set,und,List.replicate,List.cons_append,List.nil_append,reduceIte,Nat.lt_irrefl,Nat.reduceLT]
  repeat' (first
    | (with_reducible refine ZjD ?_)
    | (with_reducible refine ZjC (by assumption) ?_)
    | ((with_reducible refine Zj5 ?_); intro v f f f)
    | (with_reducible refine Zin (by assumption) ?_)
    | ((with_reducible refine ZkK ?_); intro f; try simp only[List.length_replicate,List.length_set,List.length_take,List.length_drop,List.length_append] at f)
    | ((with_reducible refine ZjB ?_); intro v f f; try simp only[Con.Q,kS,nf,nfs,Yp,E25,R25,Zgy,ZiC,E58,R58,E68,R68,Zji,ZkC,Zjj,ZkD,Zgz,ZiD,ZgA,ZiE,Zhn,Zjk,Zho,Zjl,E30_1,E129_2,E130_3,Zjm,Zlu,Zcp,Zeu,Zcq,Zev,E55,R55,List.length_replicate,List.length_set] at f)
    | ((with_reducible refine ZkN ?_); intro e; subst e; refine ZjF ?_)
    | ((with_reducible refine ZkM ?_); intro v e; (try rw[e]))
    | (with_reducible refine Zhs ?_)
    | (with_reducible exact im_none)
    | (with_reducible exact Zio)
    | ((with_reducible refine Zad ?_); (repeat (first | revert f | revert g | revert e | revert v)); exact ZfD e1 x1)
    | ((with_reducible refine Zad ?_); (repeat (first | revert f | revert g | revert e | revert v)); exact ZfD e2 x2)
    | ((with_reducible refine Zad ?_); (repeat (first | revert f | revert g | revert e | revert v)); exact ZfD e3 x3)
    | (with_reducible refine ZeQ ?_)
    | (with_reducible refine ZbI ?_)
    | (with_reducible refine ZaY ?_)
    | (with_reducible refine ZbJ ?_)
    | (with_reducible refine Zcx ?_)
    | (with_reducible refine ZeR ?_)
    | (with_reducible refine Zgm ?_)
    | (with_reducible refine Zgn ?_)
    | (with_reducible refine ZhY ?_)
    | ((with_reducible refine YF ?_ ?_); · simp[-Int.ofNat_toNat,bV, *]; done)
    | ((with_reducible refine YG ?_ ?_); · simp[-Int.ofNat_toNat,bV, *]; done)
    | (refine Zcw rfl rgR ?_)
    | (refine ZbH rfl drR (by kernel_rfl) ?_)
    | ((with_reducible refine Zax ?_ ?_); · simp[-Int.ofNat_toNat,bV, *]; done)
    | ((with_reducible refine Zay ?_ ?_); · simp[-Int.ofNat_toNat,bV, *]; done)
    | (refine ZhX rfl rgR ?_)
    | (refine Zgl rfl drR (by kernel_rfl) ?_)
    | (refine ZeS ?_ (by simp only[pq,reduceCtorEq]; rfl))
    | (refine ZeS ?_ (if_neg (by decide)))
    | (with_reducible refine Zet (by assumption) ?_)
    | (with_reducible refine Zet (of_eq_true (by assumption)) ?_)
    | (with_reducible refine Zj6 (by assumption) ?_)
    | (with_reducible refine ZcQ (by assumption) ?_)
    | (with_reducible refine ZcQ (of_eq_true (by assumption)) ?_)
    | (with_reducible refine Zip (by assumption) ?_)
    | (with_reducible refine ZjE ?_)
    | (with_reducible refine Ziq ?_)
    | (with_reducible refine Zir ?_)
    | ((with_reducible refine Zmn ?_ ?_) <;> (intro f; (try replace f:=Classical.not_not.1 f); have g:=nrm f; try replace f:=eqI f))
    | ((with_reducible refine ZkL ?_ ?_) <;> (intro f; (try replace f:=Classical.not_not.1 f); have g:=nrm f; try replace f:=eqI f))
    | ((with_reducible refine YF ?_ ?_); · simp[-Int.ofNat_toNat,bV, *]; omega)
    | ((with_reducible refine YG ?_ ?_); · simp[-Int.ofNat_toNat,bV, *]; omega)
    | ((with_reducible refine Zax ?_ ?_); · simp[-Int.ofNat_toNat,bV, *]; omega)
    | ((with_reducible refine Zay ?_ ?_); · simp[-Int.ofNat_toNat,bV, *]; omega)
    | ((with_reducible refine Zmo ?_); intro e; (try rw[e]))
    | ((fail_if_success (have:v=true:=by assumption)); (fail_if_success (have:v=false:=by assumption)); (with_reducible refine ZjG v ?_ ?_) <;> (intro f; try (exfalso; simp_all; done)))
    | (intro _; simp[-Int.ofNat_toNat,YW,ZE, *]; done)
    | (intro _; simp only[pq,reduceCtorEq]; simp[-Int.ofNat_toNat,und,List.replicate,Nat.add_assoc,upd,ZhZ,updB, *]; done))):P:=t R1 k1 ⟨rfl⟩ R2 k2 ⟨rfl⟩ R3 k3 ⟨rfl⟩
instance {a y}:Fc (Zid a=some y) (K65.Q a y):=⟨K65.q1⟩
instance {a y}:Fc (Zie a=some y) (K66.Q a y):=⟨K66.q1⟩
instance {a b y}:Fc (YR a b=some y) (K139.Q (a,b) y):=⟨K139.q2⟩
instance {a b y}:Fc (XN a b=some y) (K106.Q (a,b) y):=⟨K106.q2⟩
instance {a y}:Fc (Zdr a=some y) (K105.Q a y):=⟨K105.q1⟩
instance {a b y}:Fc (Zds a b=some y) (K67.Q (a,b) y):=⟨K67.q2⟩
instance {a y}:Fc (Zhc a=some y) (K41.Q a y):=⟨K41.q1⟩
instance {a y}:Fc (Zcy a=some y) (K24.Q a y):=⟨K24.q1⟩
instance {a y}:Fc (ZR a=some y) (G25 (E25 a)=some (R25 a y)):=⟨ZwK⟩
instance {a b y}:Fc (Zbq a b=some y) (K8.Q (a,b) y):=⟨K8.q2⟩
instance {a y}:Fc (Yz a=some y) (K21.Q a y):=⟨K21.q1⟩
instance {a b y}:Fc (XZ a b=some y) (K23.Q (a,b) y):=⟨K23.q2⟩
instance {a y}:Fc (Yx a=some y) (K26.Q a y):=⟨K26.q1⟩
instance {a b y}:Fc (Xk a b=some y) (K27.Q (a,b) y):=⟨K27.q2⟩
instance {a b c y}:Fc (Z2 a b c=some y) (K11.Q (a,b,c) y):=⟨K11.q3⟩
instance {a b y}:Fc (ZS a b=some y) (K29.Q (a,b) y):=⟨K29.q2⟩
instance {a b y}:Fc (Zaa a b=some y) (K16.Q (a,b) y):=⟨K16.q2⟩
instance { y}:Fc (Llaw21_sane=some y) (K5.Q () y):=⟨K5.q0⟩
instance {a b y}:Fc (YD a b=some y) (K61.Q (a,b) y):=⟨K61.q2⟩
instance {a b y}:Fc (Xp a b=some y) (K104.Q (a,b) y):=⟨K104.q2⟩
instance {a b y}:Fc (Zbh a b=some y) (K62.Q (a,b) y):=⟨K62.q2⟩
instance {a b y}:Fc (Z6 a b=some y) (K63.Q (a,b) y):=⟨K63.q2⟩
instance {a b y}:Fc (Zap a b=some y) (K64.Q (a,b) y):=⟨K64.q2⟩
instance {a b y}:Fc (Yv a b=some y) (K40.Q (a,b) y):=⟨K40.q2⟩
instance {a b y}:Fc (Xj a b=some y) (K39.Q (a,b) y):=⟨K39.q2⟩
instance {a y}:Fc (ZcI a=some y) (K22.Q a y):=⟨K22.q1⟩
instance {a y}:Fc (Zc5 a=some y) (K9.Q a y):=⟨K9.q1⟩
instance {a y}:Fc (ZaP a=some y) (K71.Q a y):=⟨K71.q1⟩
instance {a y}:Fc (Zhr a=some y) (K140.Q a y):=⟨K140.q1⟩
instance {a b y}:Fc (Zfw a b=some y) (K107.Q (a,b) y):=⟨K107.q2⟩
instance {a y}:Fc (Zgb a=some y) (K99.Q a y):=⟨K99.q1⟩
instance { y}:Fc (Lref03_Initial=some y) (K100.Q () y):=⟨K100.q0⟩
instance {a b y}:Fc (YZ a b=some y) (K138.Q (a,b) y):=⟨K138.q2⟩
instance {a y}:Fc (Zb3 a=some y) (K136.Q a y):=⟨K136.q1⟩
instance { y}:Fc (Lref03_constants=some y) (K137.Q () y):=⟨K137.q0⟩
instance {a b y}:Fc (XF a b=some y) (G101 (Zgy (a,b))=some (ZiC (a,b) y)):=⟨Zra⟩
instance {a y}:Fc (Xa a=some y) (G58 (E58 a)=some (R58 a y)):=⟨Zqc⟩
instance {a y}:Fc (Zbb a=some y) (K37.Q a y):=⟨K37.q1⟩
instance {a b y}:Fc (Ye a b=some y) (K102.Q (a,b) y):=⟨K102.q2⟩
instance {a b y}:Fc (Yf a b=some y) (K103.Q (a,b) y):=⟨K103.q2⟩
instance {a b y}:Fc (ZY a b=some y) (K59.Q (a,b) y):=⟨K59.q2⟩
instance {a b y}:Fc (YN a b=some y) (K172.Q (a,b) y):=⟨K172.q2⟩
instance {a b y}:Fc (Yw a b=some y) (K60.Q (a,b) y):=⟨K60.q2⟩
instance {a y}:Fc (ZcW a=some y) (K173.Q a y):=⟨K173.q1⟩
instance {a b y}:Fc (XK a b=some y) (K175.Q (a,b) y):=⟨K175.q2⟩
instance {a b y}:Fc (Zbi a b=some y) (K189.Q (a,b) y):=⟨K189.q2⟩
instance {a y}:Fc (ZdH a=some y) (K174.Q a y):=⟨K174.q1⟩
instance {a b y}:Fc (Zal a b=some y) (K142.Q (a,b) y):=⟨K142.q2⟩
instance {a y}:Fc (Zag a=some y) (K141.Q a y):=⟨K141.q1⟩
instance {a y}:Fc (Zex a=some y) (K108.Q a y):=⟨K108.q1⟩
instance {a b c y}:Fc (YJ a b c=some y) (G68 (E68 (a,b,c))=some (R68 (a,b,c) y)):=⟨ZtD⟩
instance { y}:Fc (Lmade_Null=some y) (K109.Q () y):=⟨K109.q0⟩
instance {a b c y}:Fc (Zeg a b c=some y) (K69.Q (a,b,c) y):=⟨K69.q3⟩
instance {a b y}:Fc (ZaT a b=some y) (K124.Q (a,b) y):=⟨K124.q2⟩
instance {a b y}:Fc (ZaU a b=some y) (K87.Q (a,b) y):=⟨K87.q2⟩
instance {a y}:Fc (ZbC a=some y) (K125.Q a y):=⟨K125.q1⟩
instance {a y}:Fc (X7 a=some y) (K155.Q a y):=⟨K155.q1⟩
instance {a y}:Fc (ZbD a=some y) (K158.Q a y):=⟨K158.q1⟩
instance {a b c y}:Fc (Xo a b c=some y) (G181 (Zji (a,b,c))=some (ZkC (a,b,c) y)):=⟨ZvT⟩
instance {a b y}:Fc (ZeM a b=some y) (K182.Q (a,b) y):=⟨K182.q2⟩
instance {a b y}:Fc (ZeN a b=some y) (K159.Q (a,b) y):=⟨K159.q2⟩
instance {a y}:Fc (Zbc a=some y) (K121.Q a y):=⟨K121.q1⟩
instance {a b y}:Fc (Xn a b=some y) (K122.Q (a,b) y):=⟨K122.q2⟩
instance {a y}:Fc (Xq a=some y) (K89.Q a y):=⟨K89.q1⟩
instance {a b y}:Fc (Zbt a b=some y) (K70.Q (a,b) y):=⟨K70.q2⟩
instance {a y}:Fc (Xz a=some y) (K38.Q a y):=⟨K38.q1⟩
instance {a y}:Fc (Zai a=some y) (K20.Q a y):=⟨K20.q1⟩
instance {a b y}:Fc (XP a b=some y) (K131.Q (a,b) y):=⟨K131.q2⟩
instance {a b y}:Fc (Zgi a b=some y) (K154.Q (a,b) y):=⟨K154.q2⟩
instance {a b c y}:Fc (Zav a b c=some y) (G199 (Zjj (a,b,c))=some (ZkD (a,b,c) y)):=⟨ZvU⟩
instance {a b y}:Fc (Zge a b=some y) (K183.Q (a,b) y):=⟨K183.q2⟩
instance {a b c y}:Fc (Zgj a b c=some y) (K156.Q (a,b,c) y):=⟨K156.q3⟩
instance {a y}:Fc (ZcO a=some y) (K157.Q a y):=⟨K157.q1⟩
instance {a b c d y}:Fc (ZdA a b c d=some y) (K120.Q (a,b,c,d) y):=⟨K120.q4⟩
instance {a b y}:Fc (Zdg a b=some y) (K83.Q (a,b) y):=⟨K83.q2⟩
instance {a y}:Fc (Zaw a=some y) (K123.Q a y):=⟨K123.q1⟩
instance {a b y}:Fc (Zc7 a b=some y) (K84.Q (a,b) y):=⟨K84.q2⟩
instance {a y}:Fc (Zcg a=some y) (K85.Q a y):=⟨K85.q1⟩
instance {a b c d y}:Fc (Zfx a b c d=some y) (K72.Q (a,b,c,d) y):=⟨K72.q4⟩
instance {a y}:Fc (Zfq a=some y) (K110.Q a y):=⟨K110.q1⟩
instance {a y}:Fc (ZaK a=some y) (K150.Q a y):=⟨K150.q1⟩
instance {a b y}:Fc (Zfr a b=some y) (K176.Q (a,b) y):=⟨K176.q2⟩
instance {a y}:Fc (Zdw a=some y) (K143.Q a y):=⟨K143.q1⟩
instance {a y}:Fc (Zfs a=some y) (K111.Q a y):=⟨K111.q1⟩
instance {a y}:Fc (ZdV a=some y) (K73.Q a y):=⟨K73.q1⟩
instance {a y}:Fc (Ze8 a=some y) (K74.Q a y):=⟨K74.q1⟩
instance {a b c d y}:Fc (Zeo a b c d=some y) (K43.Q (a,b,c,d) y):=⟨K43.q4⟩
instance {a b y}:Fc (Xd a b=some y) (G144 (Zgz (a,b))=some (ZiD (a,b) y)):=⟨Zrb⟩
instance {a y}:Fc (Zda a=some y) (K112.Q a y):=⟨K112.q1⟩
instance {a y}:Fc (ZdS a=some y) (K151.Q a y):=⟨K151.q1⟩
instance {a y}:Fc (X5 a=some y) (K116.Q a y):=⟨K116.q1⟩
instance {a b y}:Fc (Zdx a b=some y) (K190.Q (a,b) y):=⟨K190.q2⟩
instance {a y}:Fc (Zdy a=some y) (K177.Q a y):=⟨K177.q1⟩
instance {a y}:Fc (Zft a=some y) (K145.Q a y):=⟨K145.q1⟩
instance {a y}:Fc (Zc0 a=some y) (K146.Q a y):=⟨K146.q1⟩
instance {a b y}:Fc (Zdb a b=some y) (K147.Q (a,b) y):=⟨K147.q2⟩
instance {a b y}:Fc (ZcK a b=some y) (K148.Q (a,b) y):=⟨K148.q2⟩
instance {a y}:Fc (Zeh a=some y) (K149.Q a y):=⟨K149.q1⟩
instance {a y}:Fc (ZbT a=some y) (K113.Q a y):=⟨K113.q1⟩
instance {a b y}:Fc (Zaj a b=some y) (G114 (ZgA (a,b))=some (ZiE (a,b) y)):=⟨Zrc⟩
instance {a b c y}:Fc (Zei a b c=some y) (K75.Q (a,b,c) y):=⟨K75.q3⟩
instance {a b y}:Fc (Zcz a b=some y) (K79.Q (a,b) y):=⟨K79.q2⟩
instance {a y}:Fc (ZaV a=some y) (K115.Q a y):=⟨K115.q1⟩
instance {a b c d y}:Fc (Zej a b c d=some y) (K76.Q (a,b,c,d) y):=⟨K76.q4⟩
instance {a b y}:Fc (Zf9 a b=some y) (K117.Q (a,b) y):=⟨K117.q2⟩
instance {a b y}:Fc (Zan a b=some y) (G178 (Zhn (a,b))=some (Zjk (a,b) y)):=⟨ZvV⟩
instance {a b c y}:Fc (ZcP a b c=some y) (K152.Q (a,b,c) y):=⟨K152.q3⟩
instance {a b c y}:Fc (ZaD a b c=some y) (K153.Q (a,b,c) y):=⟨K153.q3⟩
instance {a b c d y}:Fc (Zep a b c d=some y) (K118.Q (a,b,c,d) y):=⟨K118.q4⟩
instance {a b c y}:Fc (Zeq a b c=some y) (K77.Q (a,b,c) y):=⟨K77.q3⟩
instance {a b y}:Fc (ZcL a b=some y) (K78.Q (a,b) y):=⟨K78.q2⟩
instance {a b y}:Fc (ZaC a b=some y) (K82.Q (a,b) y):=⟨K82.q2⟩
instance {a b y}:Fc (ZbE a b=some y) (G119 (Zho (a,b))=some (Zjl (a,b) y)):=⟨ZvW⟩
instance {a b c y}:Fc (Zgh a b c=some y) (K80.Q (a,b,c) y):=⟨K80.q3⟩
instance {a y}:Fc (Zdc a=some y) (K81.Q a y):=⟨K81.q1⟩
instance {a b c y}:Fc (Zb9 a b c=some y) (K44.Q (a,b,c) y):=⟨K44.q3⟩
instance {a b y}:Fc (Zfu a b=some y) (K86.Q (a,b) y):=⟨K86.q2⟩
instance {a b c y}:Fc (Zbv a b c=some y) (K46.Q (a,b,c) y):=⟨K46.q3⟩
instance {a b c d y}:Fc (Zch a b c d=some y) (K45.Q (a,b,c,d) y):=⟨K45.q4⟩
instance {a y}:Fc (ZhL a=some y) (K88.Q a y):=⟨K88.q1⟩
instance {a y}:Fc (Zek a=some y) (K47.Q a y):=⟨K47.q1⟩
instance {a y}:Fc (Zel a=some y) (K48.Q a y):=⟨K48.q1⟩
instance {a y}:Fc (Zem a=some y) (K49.Q a y):=⟨K49.q1⟩
instance {a y}:Fc (Zfv a=some y) (K31.Q a y):=⟨K31.q1⟩
instance {a b y}:Fc (Zfy a b=some y) (K30_1.Q (a,b) y):=⟨K30_1.q2⟩
instance {a b y}:Fc (Zer a b=some y) (K17.Q (a,b) y):=⟨K17.q2⟩
instance {a b y}:Fc (Zgk a b=some y) (K18.Q (a,b) y):=⟨K18.q2⟩
instance {a b y}:Fc (Xt a b=some y) (K90.Q (a,b) y):=⟨K90.q2⟩
instance {a y}:Fc (Xy a=some y) (K50.Q a y):=⟨K50.q1⟩
instance {a y}:Fc (Zew a=some y) (K57.Q a y):=⟨K57.q1⟩
instance {a b y}:Fc (ZeI a b=some y) (K92.Q (a,b) y):=⟨K92.q2⟩
instance {a y}:Fc (Zha a=some y) (K91.Q a y):=⟨K91.q1⟩
instance {a b y}:Fc (Zga a b=some y) (K51.Q (a,b) y):=⟨K51.q2⟩
instance {a y}:Fc (Zdv a=some y) (K32.Q a y):=⟨K32.q1⟩
instance {a y}:Fc (ZbS a=some y) (K52.Q a y):=⟨K52.q1⟩
instance {a y}:Fc (Zig a=some y) (K33.Q a y):=⟨K33.q1⟩
instance {a y}:Fc (Zfp a=some y) (K34.Q a y):=⟨K34.q1⟩
instance {a y}:Fc (XV a=some y) (K160.Q a y):=⟨K160.q1⟩
instance {a b y}:Fc (Y5 a b=some y) (K126.Q (a,b) y):=⟨K126.q2⟩
instance {a y}:Fc (Z9 a=some y) (K93.Q a y):=⟨K93.q1⟩
instance {a y}:Fc (Zfm a=some y) (K127.Q a y):=⟨K127.q1⟩
instance {a y}:Fc (Zfn a=some y) (K128.Q a y):=⟨K128.q1⟩
instance {a b y}:Fc (XO a b=some y) (K129_2.Q (a,b) y):=⟨K129_2.q2⟩
instance {a b c y}:Fc (X9 a b c=some y) (K130_3.Q (a,b,c) y):=⟨K130_3.q3⟩
instance {a b c y}:Fc (Zau a b c=some y) (K94.Q (a,b,c) y):=⟨K94.q3⟩
instance {a b y}:Fc (Zbo a b=some y) (K53.Q (a,b) y):=⟨K53.q2⟩
instance {a b y}:Fc (ZhG a b=some y) (K95.Q (a,b) y):=⟨K95.q2⟩
instance {a b y}:Fc (ZT a b=some y) (K161.Q (a,b) y):=⟨K161.q2⟩
instance {a b y}:Fc (Zfo a b=some y) (K133.Q (a,b) y):=⟨K133.q2⟩
instance {a b y}:Fc (ZdT a b=some y) (K132.Q (a,b) y):=⟨K132.q2⟩
instance {a b y}:Fc (Zif a b=some y) (K96.Q (a,b) y):=⟨K96.q2⟩
instance {a y}:Fc (Zbp a=some y) (G171 (Zjm a)=some (Zlu a y)):=⟨ZvX⟩
instance {a y}:Fc (ZcG a=some y) (K135.Q a y):=⟨K135.q1⟩
instance {a b c y}:Fc (Zt a b c=some y) (G162_4 (Zcp (a,b,c))=some (Zeu (a,b,c) y)):=⟨ZoQ⟩
instance {a b c d y}:Fc (YA a b c d=some y) (G134_5 (Zcq (a,b,c,d))=some (Zev (a,b,c,d) y)):=⟨ZtE⟩
instance {a y}:Fc (Ym a=some y) (K97_6.Q a y):=⟨K97_6.q1⟩
instance {a b c d y}:Fc (Zb8 a b c d=some y) (K54.Q (a,b,c,d) y):=⟨K54.q4⟩
instance {a b c d y}:Fc (ZcN a b c d=some y) (K35.Q (a,b,c,d) y):=⟨K35.q4⟩
instance {a y}:Fc (Yt a=some y) (G55 (E55 a)=some (R55 a y)):=⟨ZwL⟩
instance {a y}:Fc (Zj0 a=some y) (K98.Q a y):=⟨K98.q1⟩
instance {a y}:Fc (ZcZ a=some y) (K56.Q a y):=⟨K56.q1⟩
instance {a y}:Fc (Zbr a=some y) (K36.Q a y):=⟨K36.q1⟩
instance {a y}:Fc (ZdW a=some y) (K19.Q a y):=⟨K19.q1⟩
instance {a b y}:Fc (Zes a b=some y) (K6.Q (a,b) y):=⟨K6.q2⟩
instance {a b y}:Fc (ZhW a b=some y) (K10.Q (a,b) y):=⟨K10.q2⟩
instance {a b y}:Fc (Y7 a b=some y) (K12.Q (a,b) y):=⟨K12.q2⟩
instance {a b y}:Fc (X0 a b=some y) (K28.Q (a,b) y):=⟨K28.q2⟩
instance {a b y}:Fc (ZdZ a b=some y) (K13.Q (a,b) y):=⟨K13.q2⟩
instance {a b y}:Fc (Y8 a b=some y) (K14.Q (a,b) y):=⟨K14.q2⟩
instance {a b c y}:Fc (Zac a b c=some y) (K15.Q (a,b,c) y):=⟨K15.q3⟩
end Go.Proofs.YtcfpmbefhfbdjaaGreatDoor
