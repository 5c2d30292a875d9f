import Derived.Test.YtcfpmbefhfbdjaaGreatDoorLcG3
import Derived.Test.YtcfpmbefhfbdjaaGreatDoorLcG1
import Derived.Test.YtcfpmbefhfbdjaaGreatDoorLcG1
import Derived.Test.YtcfpmbefhfbdjaaGreatDoorLcG3
import Derived.Test.YtcfpmbefhfbdjaaGreatDoorTt
namespace Go.Proofs.YtcfpmbefhfbdjaaGreatDoor
open Go.RowKit
open Go.Av
open Go.Lc
set_option maxRecDepth 100000
set_option linter.unusedSimpArgs false
set_option linter.unusedVariables false
attribute [simp] tt1 tt2 tt3 tt4 tt5 tt6 tt7 tt8 tt9 tt10 tt11 tt12 tt13 tt14 tt15 tt16 tt17 tt18 tt19 tt21 tt22 tt23 tt24 tt25 tt26 tt27 tt28 tt29 tt31 tt32 tt33 tt34 tt35 tt36 tt37 tt38 tt39 tt41 tt42 tt43 tt44 tt45 tt46 tt47 tt48 tt49 tt50 tt51 tt52 tt53 tt54 tt55 tt56 tt57 tt58 tt59 tt60 tt61 tt62 tt63 tt64 tt65 tt66 tt68 tt72 tt73 tt74 tt75 tt76 tt77 tt78 tt79 tt80 tt81 tt82 tt83 tt85 tt90 tt91 tt92 tt93 tt94 tt95 tt96 tt98 tt99 tt109 tt110 tt111 tt112 tt115 tt117 tt119 tt120 tt123 tt124 tt125 tt126 tt132 tt134 tt136 tt150 tt151 tt161 tt162 tt169 tt170 tt178 tt180 tt204 tt208 tt209 tt212 tt228 tt229 tt240 tt251 tt256 tt266 tt272 tt273 tt274 tt276 tt277 tt286 tt309 tt310 tt311 tt312 tt313 tt315 tt316 tt317 tt318 tt319 tt320 tt321 tt322 ti1 ti2 ti3 ti4 ti5 ti6 ti7 ti8 ti9 ti10 ti11 ti12 ti13 ti14 ti15 ti16 ti17 ti18 ti19 ti21 ti22 ti23 ti24 ti25 ti26 ti27 ti28 ti29 ti31 ti32 ti33 ti34 ti35 ti36 ti37 ti38 ti39 ti41 ti42 ti43 ti44 ti45 ti46 ti47 ti48 ti49 ti50 ti51 ti52 ti53 ti54 ti55 ti56 ti57 ti58 ti59 ti60 ti61 ti62 ti63 ti64 ti65 ti66 ti68 ti72 ti73 ti74 ti75 ti76 ti77 ti78 ti79 ti80 ti81 ti82 ti83 ti85 ti90 ti91 ti92 ti93 ti94 ti95 ti96 ti98 ti99 ti109 ti110 ti111 ti112 ti115 ti117 ti119 ti120 ti123 ti124 ti125 ti126 ti132 ti134 ti136 ti150 ti151 ti161 ti162 ti169 ti170 ti178 ti180 ti204 ti208 ti209 ti212 ti228 ti229 ti240 ti251 ti256 ti266 ti272 ti273 ti274 ti276 ti277 ti286 ti309 ti310 ti311 ti312 ti313 ti315 ti316 ti317 ti318 ti319 ti320 ti321 ti322
@[simp] theorem ZxH {n:Nat}{k:IntKind}{l:List (Arr n)}:l.any ((fun l=>l.any Cell.isSl) ∘ arC k)=false:=by simp[arC,ints]
@[simp↓] theorem Zxo {k:IntKind}(m:List Int) (n:Nat):(∀ l,l∈List.drop n (Zf k m)→l.length=1)=True:=eq_true fun l h=>intsR_all l (List.mem_of_mem_drop h)
@[simp↓] theorem Zxp {k:IntKind}(m:List Int) (n:Nat):(∀ l,l∈List.take n (Zf k m)→l.length=1)=True:=eq_true fun l h=>intsR_all l (List.mem_of_mem_take h)
@[simp↓] theorem Zxq {k:IntKind}(m:List Int):(∀ l,l∈(Zf k m).tail→l.length=1)=True:=eq_true fun l h=>intsR_all l (List.mem_of_mem_tail h)
@[simp↓] theorem ZwS {k:IntKind}(m:List Int) (n:Nat):(∀ l,l∈List.take n (Zf k m).tail→l.length=1)=True:=eq_true fun l h=>intsR_all l (List.mem_of_mem_tail (List.mem_of_mem_take h))
@[simp↓] theorem ZwT {k:IntKind}(m:List Int) (n:Nat):(∀ l,l∈List.drop n (Zf k m).tail→l.length=1)=True:=eq_true fun l h=>intsR_all l (List.mem_of_mem_tail (List.mem_of_mem_drop h))
@[simp] theorem arC_z8:arC .u64 (zA 8)=arC .u64 (zA 4)++arC .u64 (zA 4):=rfl
@[simp] theorem arC_z12:arC .u64 (zA 12)=arC .u64 (zA 4)++(arC .u64 (zA 4)++arC .u64 (zA 4)):=rfl
theorem az64:arC .u8 (zA 64)=arC .u8 (zA 32)++arC .u8 (zA 32):=rfl
theorem bz4:List.map Zc.cell (zr 4 Zc.nil)=[.slice .nil [],.slice .nil [],.slice .nil [],.slice .nil []]:=rfl
theorem mzD (p:Arr 8):Zy (arC .u64 (zA 4)) 0 (List.drop 4 (Zf .u64 p.l)).flatten=arC .u64 ((zA 4).over (p.l.drop 4)):=by
  have h8:=p.hl
  have e:List.take (min (p.l.drop 4).length 4) (Zf .u64 (p.l.drop 4))=List.drop 4 (Zf .u64 p.l):=by
    have e1:Zf .u64 (p.l.drop 4)=List.drop 4 (Zf .u64 p.l):=by unfold Zf; rw[List.map_drop]
    rw[e1,List.take_of_length_le (by unfold Zf; rw[List.length_drop,List.length_drop,List.length_map]; omega)]
  rw[← e];exact ZmR
theorem mzT (p:Arr 8):Zy (arC .u64 (zA 4)) 0 (List.take 4 (Zf .u64 p.l)).flatten=arC .u64 ((zA 4).over (p.l.take 4)):=by
  have h8:=p.hl
  have e:List.take (min (p.l.take 4).length 4) (Zf .u64 (p.l.take 4))=List.take 4 (Zf .u64 p.l):=by
    have e1:Zf .u64 (p.l.take 4)=List.take 4 (Zf .u64 p.l):=by unfold Zf; rw[List.map_take]
    rw[e1,List.take_of_length_le (by unfold Zf; rw[List.length_take,List.length_take,List.length_map]; omega)]
  rw[← e];exact ZmR
theorem Zr3 (a:Nat):(1+a≤a+1)=True:=eq_true (by omega)
@[simp] def XQ (x:(List Int)):List Cell:=[.slice .no (Zf .u8 x)]
instance:EnC XQ 1:=enC
@[simp] def XK (x:Tapi_FilterChain):List Cell:=[.slice .no (List.map (arC .u8) x.1),.slice .no (List.map (arC .u8) x.2)]
instance:EnC XK 2:=enC
@[simp] def ZgK (x:(List (Arr 32))):List Cell:=[.slice .no (List.map (arC .u8) x)]
instance:EnC ZgK 1:=enC
@[simp] def X8 (x:Tapi_Filter):List Cell:=[.v (.int .i64 x.1),.slice .no (Zf .u8 x.2)]
instance:EnC X8 2:=enC
@[simp] def Zr (x:Tapi_Coin):List Cell:=(arC .u8 x.1.1)++((.v (.int .u32 x.1.2)) :: ((.v (.int .i64 x.2.1.1)) :: ((.slice .no (Zf .u8 x.2.1.2)) :: ((.v (.int .i64 x.2.2.1)) :: ((.v (.bool x.2.2.2)) :: [])))))
instance:EnC Zr 37:=enC
@[simp] def ZaS (x:Tapi_Input):List Cell:=(arC .u8 x.1.1)++((.v (.int .u32 x.1.2)) :: ((.v (.int .u32 x.2.1)) :: ((.slice .no (List.map XQ x.2.2)) :: [])))
instance:EnC ZaS 35:=enC
@[simp] def Y7 (x:Tapi_Output):List Cell:=[.v (.int .i64 x.1),.slice .no (Zf .u8 x.2)]
instance:EnC Y7 2:=enC
@[simp] def eapi_OutPoint (x:Tapi_OutPoint):List Cell:=(arC .u8 x.1)++((.v (.int .u32 x.2)) :: [])
instance:EnC eapi_OutPoint 33:=enC
instance:EnP eapi_OutPoint:=enP
@[simp] def ZV (x:Tapi_Tx):List Cell:=[.v (.int .u32 x.1),.slice .no (List.map ZaS x.2.1),.slice .no (List.map Y7 x.2.2.1),.v (.int .u32 x.2.2.2)]
instance:EnC ZV 4:=enC
@[simp] def eapi_Checkpoint (x:Tapi_Checkpoint):List Cell:=(.v (.int .i64 x.1)) :: (arC .u8 x.2)
instance:EnC eapi_Checkpoint 33:=enC
instance:EnP eapi_Checkpoint:=enP
@[simp] def Yx (x:Tapi_Params):List Cell:=(.v (.int .u32 x.1.1)) :: ((arC .u8 x.1.2.1)++((arC .u8 x.1.2.2.1)++((.v (.int .u32 x.1.2.2.2.1)) :: ((.v (.int .u32 x.1.2.2.2.2.1)) :: ((.v (.int .u32 x.1.2.2.2.2.2)) :: ((arC .u64 x.2.1)++((.v (.int .i64 x.2.2.1)) :: ((.v (.int .u32 x.2.2.2.1)) :: ((.v (.int .u32 x.2.2.2.2.1)) :: ((.v (.int .u32 x.2.2.2.2.2.1)) :: ((.slice .no (List.map eapi_Checkpoint x.2.2.2.2.2.2.1)) :: ((.v (.int .i64 x.2.2.2.2.2.2.2.1)) :: ((.v (.int .i64 x.2.2.2.2.2.2.2.2.1)) :: ((.v (.int .i64 x.2.2.2.2.2.2.2.2.2)) :: []))))))))))))))
instance:EnC Yx 80:=enC
@[simp] def eapi_Header (x:Tapi_Header):List Cell:=(.v (.int .u32 x.1)) :: ((arC .u8 x.2.1)++((arC .u8 x.2.2.1)++((.v (.int .u32 x.2.2.2.1)) :: ((.v (.int .u32 x.2.2.2.2.1)) :: ((.v (.int .u32 x.2.2.2.2.2)) :: [])))))
instance:EnC eapi_Header 68:=enC
instance:EnP eapi_Header:=enP
@[simp] def YC (x:Tapi_Context):List Cell:=(.v (.int .i64 x.1)) :: ((arC .u8 x.2.1)++((.v (.int .u32 x.2.2.1)) :: ((.v (.int .u32 x.2.2.2.1)) :: ((.slice .no (Zf .u32 x.2.2.2.2)) :: []))))
instance:EnC YC 36:=enC
@[simp] def Xi (x:Tapi_Ledger):List Cell:=(.v (.int .i64 x.1)) :: ((arC .u8 x.2.1)++((.slice .no (List.map Zr x.2.2)) :: []))
instance:EnC Xi 34:=enC
@[simp] def YQ (x:Tapi_Block):List Cell:=(.v (.int .u32 x.1.1)) :: ((arC .u8 x.1.2.1)++((arC .u8 x.1.2.2.1)++((.v (.int .u32 x.1.2.2.2.1)) :: ((.v (.int .u32 x.1.2.2.2.2.1)) :: ((.v (.int .u32 x.1.2.2.2.2.2)) :: ((.slice .no (List.map ZV x.2)) :: []))))))
instance:EnC YQ 69:=enC
@[simp] def eapi_Env (x:Tapi_Env):List Cell:=(arC .u8 x.1)++((.v (.int .i64 x.2.1)) :: ((.v (.int .i64 x.2.2)) :: []))
instance:EnC eapi_Env 34:=enC
instance:EnP eapi_Env:=enP
@[simp] def Zer (x:(List Tapi_Coin)):List Cell:=[.slice .no (List.map Zr x)]
instance:EnC Zer 1:=enC
@[simp] def Zhr (x:Tapi_Bits):List Cell:=[.slice .no (Zf .u8 x.1),.v (.int .i64 x.2)]
instance:EnC Zhr 2:=enC
theorem nfs:(∀ x:(List Int),XQ x=[.slice .no (Zf .u8 x)])∧(∀ x:Tapi_FilterChain,XK x=[.slice .no (List.map (arC .u8) x.1),.slice .no (List.map (arC .u8) x.2)])∧(∀ x:(List (Arr 32)),ZgK x=[.slice .no (List.map (arC .u8) x)])∧(∀ x:Tapi_Filter,X8 x=[.v (.int .i64 x.1),.slice .no (Zf .u8 x.2)])∧(∀ x:Tapi_Coin,Zr x=(arC .u8 x.1.1)++((.v (.int .u32 x.1.2)) :: ((.v (.int .i64 x.2.1.1)) :: ((.slice .no (Zf .u8 x.2.1.2)) :: ((.v (.int .i64 x.2.2.1)) :: ((.v (.bool x.2.2.2)) :: []))))))∧(∀ x:Tapi_Input,ZaS x=(arC .u8 x.1.1)++((.v (.int .u32 x.1.2)) :: ((.v (.int .u32 x.2.1)) :: ((.slice .no (List.map XQ x.2.2)) :: []))))∧(∀ x:Tapi_Output,Y7 x=[.v (.int .i64 x.1),.slice .no (Zf .u8 x.2)])∧(∀ x:Tapi_OutPoint,eapi_OutPoint x=(arC .u8 x.1)++((.v (.int .u32 x.2)) :: []))∧(∀ x:Tapi_Tx,ZV x=[.v (.int .u32 x.1),.slice .no (List.map ZaS x.2.1),.slice .no (List.map Y7 x.2.2.1),.v (.int .u32 x.2.2.2)])∧(∀ x:Tapi_Checkpoint,eapi_Checkpoint x=(.v (.int .i64 x.1)) :: (arC .u8 x.2))∧(∀ x:Tapi_Params,Yx x=(.v (.int .u32 x.1.1)) :: ((arC .u8 x.1.2.1)++((arC .u8 x.1.2.2.1)++((.v (.int .u32 x.1.2.2.2.1)) :: ((.v (.int .u32 x.1.2.2.2.2.1)) :: ((.v (.int .u32 x.1.2.2.2.2.2)) :: ((arC .u64 x.2.1)++((.v (.int .i64 x.2.2.1)) :: ((.v (.int .u32 x.2.2.2.1)) :: ((.v (.int .u32 x.2.2.2.2.1)) :: ((.v (.int .u32 x.2.2.2.2.2.1)) :: ((.slice .no (List.map eapi_Checkpoint x.2.2.2.2.2.2.1)) :: ((.v (.int .i64 x.2.2.2.2.2.2.2.1)) :: ((.v (.int .i64 x.2.2.2.2.2.2.2.2.1)) :: ((.v (.int .i64 x.2.2.2.2.2.2.2.2.2)) :: [])))))))))))))))∧(∀ x:Tapi_Header,eapi_Header x=(.v (.int .u32 x.1)) :: ((arC .u8 x.2.1)++((arC .u8 x.2.2.1)++((.v (.int .u32 x.2.2.2.1)) :: ((.v (.int .u32 x.2.2.2.2.1)) :: ((.v (.int .u32 x.2.2.2.2.2)) :: []))))))∧(∀ x:Tapi_Context,YC x=(.v (.int .i64 x.1)) :: ((arC .u8 x.2.1)++((.v (.int .u32 x.2.2.1)) :: ((.v (.int .u32 x.2.2.2.1)) :: ((.slice .no (Zf .u32 x.2.2.2.2)) :: [])))))∧(∀ x:Tapi_Ledger,Xi x=(.v (.int .i64 x.1)) :: ((arC .u8 x.2.1)++((.slice .no (List.map Zr x.2.2)) :: [])))∧(∀ x:Tapi_Block,YQ x=(.v (.int .u32 x.1.1)) :: ((arC .u8 x.1.2.1)++((arC .u8 x.1.2.2.1)++((.v (.int .u32 x.1.2.2.2.1)) :: ((.v (.int .u32 x.1.2.2.2.2.1)) :: ((.v (.int .u32 x.1.2.2.2.2.2)) :: ((.slice .no (List.map ZV x.2)) :: [])))))))∧(∀ x:Tapi_Env,eapi_Env x=(arC .u8 x.1)++((.v (.int .i64 x.2.1)) :: ((.v (.int .i64 x.2.2)) :: [])))∧(∀ x:(List Tapi_Coin),Zer x=[.slice .no (List.map Zr x)])∧(∀ x:Tapi_Bits,Zhr x=[.slice .no (Zf .u8 x.1),.v (.int .i64 x.2)]):=⟨fun _=>rfl,fun _=>rfl,fun _=>rfl,fun _=>rfl,fun _=>rfl,fun _=>rfl,fun _=>rfl,fun _=>rfl,fun _=>rfl,fun _=>rfl,fun _=>rfl,fun _=>rfl,fun _=>rfl,fun _=>rfl,fun _=>rfl,fun _=>rfl,fun _=>rfl,fun _=>rfl⟩
@[simp] def Zj7 (x:ByteArray×Bool):List Cell:=([.v (.string x.1)])++([.v (.bool x.2)])
theorem eM_Str_B_he:∀ a b:ByteArray,kEq ([.v (.string a)]) ([.v (.string b)])=decide (a=b):=by
  rintro a b
  rw[Bool.eq_iff_iff];simp[kEq,kEq1]
@[simp] theorem Zww {k0:ByteArray}{l:List (ByteArray×Bool)}:ZgZ 1 ([.v (.string k0)]) (List.map Zj7 l)=Option.map (fun v:Bool=>([.v (.bool v)]:List Cell)) (Zb2 k0 l):=Zps (eK:=(fun k:ByteArray=>([.v (.string k)]:List Cell))) (eV:=(fun v:Bool=>([.v (.bool v)]:List Cell))) (fun k=>by simp) eM_Str_B_he k0 l
@[simp] theorem Zwx {k0:ByteArray}{v0:Bool}{l:List (ByteArray×Bool)}:ZhZ 1 ([.v (.string k0)]) ([.v (.bool v0)]) (List.map Zj7 l)=List.map Zj7 (Zez k0 v0 l):=Zpt (eK:=(fun k:ByteArray=>([.v (.string k)]:List Cell))) (eV:=(fun v:Bool=>([.v (.bool v)]:List Cell))) (fun k=>by simp) eM_Str_B_he k0 v0 l
@[simp] theorem ZwU (o:Option Bool):(Option.map (fun v:Bool=>([.v (.bool v)]:List Cell)) o).getD ([.v (.bool false)])=[.v (.bool (o.getD false))]:=by cases o <;> rfl
@[simp] theorem ZvT {k0:ByteArray}{v0:Bool}:ZhZ 1 ([.v (.string k0)]) ([.v (.bool v0)]) []=List.map Zj7 (Zez k0 v0 []):=rfl
theorem bN {α β:Type}{o:Option α}{f:α→Option β}{y:β}{P P':α→Prop}(h:o.bind f=some y) (k:∀ {x},o=some x→P x) (n:∀ x,P x→P' x:=by intro x h; try simp only[kS,nf,nfs,Xf] at h; exact h):∃ x,P' x∧f x=some y :=
  let ⟨x,h1,h2⟩:=bs h
  ⟨x,n x (k h1),h2⟩
theorem Zc9 {P R:Prop}(k:R) (h:∀ X:Prop,ZaO X R→Imp X P:=by
  intro X e
  repeat (first
    | (with_reducible refine ZeJ ?_)
    | (with_reducible refine Zbz ?_)
    | (with_reducible refine ZaP ?_)
    | (with_reducible refine ZbA ?_)
    | (with_reducible refine Zco ?_)
    | (with_reducible refine ZeK ?_)
    | (with_reducible refine Zgf ?_)
    | (with_reducible refine Zgg ?_)
    | (with_reducible refine ZhR ?_)
    | (with_reducible refine Yz ?_ ?_; · simp[-Int.ofNat_toNat,bV, *]; done)
    | (with_reducible refine YA ?_ ?_; · simp[-Int.ofNat_toNat,bV, *]; done)
    | (refine Zcn rfl (by first | (simp[-Int.ofNat_toNat,Nat.add_assoc,-Int.natCast_tdiv_eq_ediv, *] <;> rfl) | fail) ?_)
    | (refine Zby rfl (by simp[-Int.ofNat_toNat,Nat.add_assoc,-Int.natCast_tdiv_eq_ediv, *]; first | exact⟨rfl,rfl⟩ | rfl) (by kernel_rfl) ?_)
    | (with_reducible refine Zam ?_ ?_; · simp[-Int.ofNat_toNat,bV, *]; done)
    | (with_reducible refine Zan ?_ ?_; · simp[-Int.ofNat_toNat,bV, *]; done)
    | (refine ZhQ rfl (by first | (simp[-Int.ofNat_toNat,Nat.add_assoc,-Int.natCast_tdiv_eq_ediv, *] <;> rfl) | fail) ?_)
    | (refine Zge rfl (by simp[-Int.ofNat_toNat,Nat.add_assoc,-Int.natCast_tdiv_eq_ediv, *]; first | exact⟨rfl,rfl⟩ | rfl) (by kernel_rfl) ?_)
    | (refine ZeL ?_ (by simp only[pq,reduceCtorEq]; rfl)))
  exact Imp.of e):P:=h R ⟨rfl⟩ k
theorem goR {P R:Prop}(k:R) (h:∀ X:Prop,ZaO X R→Imp X P:=by
  intro X e
  repeat (first
    | (with_reducible refine ZeJ ?_)
    | (with_reducible refine Zbz ?_)
    | (with_reducible refine ZaP ?_)
    | (with_reducible refine ZbA ?_)
    | (with_reducible refine Zco ?_)
    | (with_reducible refine ZeK ?_)
    | (with_reducible refine Zgf ?_)
    | (with_reducible refine Zgg ?_)
    | (with_reducible refine ZhR ?_)
    | (with_reducible refine Yz ?_ ?_; · simp[-Int.ofNat_toNat,bV, *]; done)
    | (with_reducible refine YA ?_ ?_; · simp[-Int.ofNat_toNat,bV, *]; done)
    | (refine Zcn rfl (by first | (simp[-Int.ofNat_toNat,List.range,List.range.loop, *] <;> rfl) | fail) ?_)
    | (refine Zby rfl (by simp[-Int.ofNat_toNat,List.range,List.range.loop, *]; first | exact⟨rfl,rfl⟩ | rfl) (by kernel_rfl) ?_)
    | (with_reducible refine Zam ?_ ?_; · simp[-Int.ofNat_toNat,bV, *]; done)
    | (with_reducible refine Zan ?_ ?_; · simp[-Int.ofNat_toNat,bV, *]; done)
    | (refine ZhQ rfl (by first | (simp[-Int.ofNat_toNat,List.range,List.range.loop, *] <;> rfl) | fail) ?_)
    | (refine Zge rfl (by simp[-Int.ofNat_toNat,List.range,List.range.loop, *]; first | exact⟨rfl,rfl⟩ | rfl) (by kernel_rfl) ?_)
    | (refine ZeL ?_ (by simp only[pq,reduceCtorEq]; rfl)))
  exact Imp.of e):P:=h R ⟨rfl⟩ k
def G:Glob:=fun g=>if g=0 then some (arC .u32 shaInitial) else if g=1 then some (arC .u32 shaK) else none
@[simp] theorem G_at0:G 0=some (arC .u32 shaInitial):=rfl
@[simp] theorem G_at1:G 1=some (arC .u32 shaK):=rfl
noncomputable abbrev K65:=cn (a1 (eS XQ)) (r1 (oL .u8)) Zh6
noncomputable abbrev K66:=cn (a1 (eI .u64)) (r1 (oL .u8)) Zh7
noncomputable abbrev K139:=cn (a2 (eI .u32) (eI .i64)) (r1 (eI .u32)) (u2 YL)
noncomputable abbrev K106:=cn (a2 (eI .u32) (eI .i64)) (r1 (eI .u32)) (u2 XE)
noncomputable abbrev K105:=cn (a1 (eA .u8)) (r1 (eA .u32)) Zdi
noncomputable abbrev K67:=cn (a2 (eA .u32) (eA .u8)) (r1 (eA .u32)) (u2 Zdj)
noncomputable abbrev K41:=cn (a1 (eL .u8)) (r1 (eA .u8)) Zg6
noncomputable abbrev K24:=cn (a1 (eL .u8)) (r1 (eA .u8)) Zcp
def G42:List PV→Option (PV×List (List Cell))
  | [.one (.slice .nil []),.one (.v (.int .i64 n))]=>if 0≤n∧n≤70368744177664 then some (.one (.own 1 []),[]) else none
  | _=>none
theorem Zwy {n:Int}(h:0≤n∧n≤70368744177664):G42 [.one (.slice .nil []),.one (.v (.int .i64 n))]=some (.one (.own 1 []),[]):=by
  simp[G42,h]
def E25 (x:(List (List Int))):List PV:=[.one (.slice .no (List.map XQ x))]
theorem E25i:∀ a b,E25 a=E25 b→a=b:=by
  rintro a0 b0 h
  simpa[E25,and_assoc] using h
def R25 (x:(List (List Int))) (y:(List Int)):PV×List (List Cell):=(.one (.own 1 (Zf .u8 y)),[])
noncomputable def G25:=Zad E25 fun x=>(ZO x).map (R25 x)
theorem Zwz {a0:(List (List Int))}{y:(List Int)}(h:ZO a0=some y):G25 (E25 a0)=some (R25 a0 y):=Y1 E25i h
noncomputable abbrev K8:=cn (a2 (eA .u8) (eA .u8)) (r1 (eA .u8)) (u2 XO)
noncomputable abbrev K21:=cn (a1 (eG XK)) (r1 eB) YP
noncomputable abbrev K23:=cn (a2 (eG XK) (eI .i64)) (r1 (eA .u8)) (u2 Xk)
noncomputable abbrev K26:=cn (a1 (eS ZgK)) (r1 (oS 32 (arC .u8))) XR
noncomputable abbrev K27:=cn (a2 (eA .u8) (eS (arC .u8))) (r1 (oS 32 (arC .u8))) (u2 Xa)
noncomputable abbrev K11:Con (Tapi_FilterChain×(List (Arr 32))×(List (Arr 32))) (Tapi_FilterChain×Int):=cn (a3 (eG XK) (eS (arC .u8)) (eS (arC .u8))) (r2 (eG XK) (eI .i64)) (u3 YD)
noncomputable abbrev K29:=cn (a2 (eS (arC .u8)) (eS (arC .u8))) (r1 (eI .i64)) (u2 YJ)
noncomputable abbrev K16:=cn (a2 (eS (arC .u8)) (eS (arC .u8))) (r1 (eI .i64)) (u2 XX)
noncomputable abbrev K5:=cn a0 (r1 eB) (fun(_:Unit)=>Llaw21_sane)
noncomputable abbrev K61:=cn (a2 (eL .u8) (eL .u8)) (r1 (oL .u8)) (u2 Yy)
noncomputable abbrev K104:=cn (a2 (eI .u64) (eI .i64)) (r1 (oL .u8)) (u2 Xd)
noncomputable abbrev K62:=cn (a2 (eL .u8) (eI .u16)) (r1 (oL .u8)) (u2 Za8)
noncomputable abbrev K63:=cn (a2 (eL .u8) (eI .u32)) (r1 (oL .u8)) (u2 Z5)
noncomputable abbrev K64:=cn (a2 (eL .u8) (eI .u64)) (r1 (oL .u8)) (u2 Zae)
noncomputable abbrev K40:=cn (a2 (eL .u8) (eI .u64)) (r1 (oL .u8)) (u2 Yq)
noncomputable abbrev K39:=cn (a2 (eL .u8) (eL .u8)) (r1 (oL .u8)) (u2 Y9)
noncomputable abbrev K22:Con Tapi_Filter ((List Int)×Int):=cn (a1 (eG X8)) (r2 (eL .u8) (eI .i64)) Zbh
noncomputable abbrev K9:=cn (a1 (eG X8)) (r1 (eA .u8)) ZbK
noncomputable abbrev K71:=cn (a1 (eI .u8)) (r1 (oL .u8)) ZaG
noncomputable abbrev K140:=cn (a1 (eL .u8)) (r1 (eS XQ)) Zhl
noncomputable abbrev K107:Con (Tapi_Coin×Int) (Tapi_Tx×Int):=cn (a2 (eG Zr) (eI .u8)) (fun _ y=>(.tup [.agg ([.v (.int .u32 y.1.1),.own 35 (List.map ZaS y.1.2.1),.own 2 (List.map Y7 y.1.2.2.1),.v (.int .u32 y.1.2.2.2)]),.one (.v (.int .i64 y.2))],[])) (u2 Zfp)
noncomputable abbrev K99:=cn (a1 (eI .u64)) (r1 (oL .u8)) Zf4
noncomputable abbrev K100:=cn a0 (r1 (eA .u32)) (fun(_:Unit)=>Lref03_Initial)
noncomputable abbrev K138:=cn (a2 (eI .u32) (eI .i64)) (r1 (eI .u32)) (u2 YS)
noncomputable abbrev K136:=cn (a1 (eA .u8)) (r1 (eA .u32)) ZbU
noncomputable abbrev K137:=cn a0 (r1 (eA .u32)) (fun(_:Unit)=>Lref03_constants)
def Zgr (x:(Arr 8)×(Arr 64)):List PV:=[.agg (arC .u32 x.1),.agg (arC .u8 x.2)]
theorem E101i:∀ a b,Zgr a=Zgr b→a=b:=by
  rintro⟨a0,a1⟩ ⟨b0,b1⟩ h
  simpa[Zgr,and_assoc] using h
def Ziu (x:(Arr 8)×(Arr 64)) (y:(Arr 8)):PV×List (List Cell):=(.agg (arC .u32 y),[])
noncomputable def G101:=Zad Zgr fun x=>(Xv x.1 x.2).map (Ziu x)
theorem ZqX {a0:(Arr 8)}{a1:(Arr 64)}{y:(Arr 8)}(h:Xv a0 a1=some y):G101 (Zgr (a0,a1))=some (Ziu (a0,a1) y):=Y1 E101i h
def E58 (x:(List Int)):List PV:=[.one (.slice .no (Zf .u8 x))]
theorem E58i:∀ a b,E58 a=E58 b→a=b:=by
  rintro a0 b0 h
  simpa[E58,and_assoc] using h
def R58 (x:(List Int)) (y:(Arr 32)):PV×List (List Cell):=(.agg (arC .u8 y),[])
noncomputable def G58:=Zad E58 fun x=>(YZ x).map (R58 x)
theorem ZpX {a0:(List Int)}{y:(Arr 32)}(h:YZ a0=some y):G58 (E58 a0)=some (R58 a0 y):=Y1 E58i h
noncomputable abbrev K37:=cn (a1 (eL .u8)) (r1 (eA .u8)) Za2
noncomputable abbrev K102:=cn (a2 (eL .u8) (eL .u8)) (r1 (oL .u8)) (u2 Z9)
noncomputable abbrev K103:=cn (a2 (eI .u64) (eI .i64)) (r1 (oL .u8)) (u2 Ya)
noncomputable abbrev K59:=cn (a2 (eL .u8) (eI .u32)) (r1 (oL .u8)) (u2 ZW)
noncomputable abbrev K172:=cn (a2 (eL .u8) (eI .u64)) (r1 (oL .u8)) (u2 YG)
noncomputable abbrev K60:=cn (a2 (eL .u8) (eA .u8)) (r1 (oL .u8)) (u2 Yr)
noncomputable abbrev K173:=cn (a1 (eG eapi_OutPoint)) (r1 (oL .u8)) ZcN
noncomputable abbrev K175:=cn (a2 (eL .u8) (eL .u8)) (r1 (oL .u8)) (u2 XB)
noncomputable abbrev K189:=cn (a2 (eL .u8) (eI .u64)) (r1 (oL .u8)) (u2 Za9)
noncomputable abbrev K174:=cn (a1 (eG Y7)) (r1 (oL .u8)) ZdA
noncomputable abbrev K142:=cn (a2 (eG ZV) eB) (r1 (oL .u8)) (u2 X9)
noncomputable abbrev K141:=cn (a1 (eG ZV)) (r1 eB) X0
noncomputable abbrev K108:=cn (a1 (eG ZV)) (r1 (eA .u8)) Zeq
def E68 (x:Tapi_Params×Tapi_Ledger×Int):List PV:=[.agg ((.v (.int .u32 x.1.1.1)) :: ((arC .u8 x.1.1.2.1)++((arC .u8 x.1.1.2.2.1)++((.v (.int .u32 x.1.1.2.2.2.1)) :: ((.v (.int .u32 x.1.1.2.2.2.2.1)) :: ((.v (.int .u32 x.1.1.2.2.2.2.2)) :: ((arC .u64 x.1.2.1)++((.v (.int .i64 x.1.2.2.1)) :: ((.v (.int .u32 x.1.2.2.2.1)) :: ((.v (.int .u32 x.1.2.2.2.2.1)) :: ((.v (.int .u32 x.1.2.2.2.2.2.1)) :: ((.slice .no (List.map eapi_Checkpoint x.1.2.2.2.2.2.2.1)) :: ((.v (.int .i64 x.1.2.2.2.2.2.2.2.1)) :: ((.v (.int .i64 x.1.2.2.2.2.2.2.2.2.1)) :: ((.v (.int .i64 x.1.2.2.2.2.2.2.2.2.2)) :: []))))))))))))))),.agg ((.v (.int .i64 x.2.1.1)) :: ((arC .u8 x.2.1.2.1)++((.slice .no (List.map Zr x.2.1.2.2)) :: []))),.one (.v (.int .u8 x.2.2))]
theorem E68i:∀ a b,E68 a=E68 b→a=b:=by
  rintro⟨⟨⟨a0_0_0,a0_0_1,a0_0_2,a0_0_3,a0_0_4,a0_0_5⟩,a0_1,a0_2,a0_3,a0_4,a0_5,a0_6,a0_7,a0_8,a0_9⟩,⟨a1_0,a1_1,a1_2⟩,a2⟩ ⟨⟨⟨b0_0_0,b0_0_1,b0_0_2,b0_0_3,b0_0_4,b0_0_5⟩,b0_1,b0_2,b0_3,b0_4,b0_5,b0_6,b0_7,b0_8,b0_9⟩,⟨b1_0,b1_1,b1_2⟩,b2⟩ h
  simpa[E68,and_assoc] using h
def R68 (x:Tapi_Params×Tapi_Ledger×Int) (y:(List Tapi_Tx)×Int):PV×List (List Cell):=(.tup [.one (.own 4 (List.map ZV y.1)),.one (.v (.int .i64 y.2))],[])
noncomputable def G68:=Zad E68 fun x=>(YE x.1 x.2.1 x.2.2).map (R68 x)
theorem Ztq {a0:Tapi_Params}{a1:Tapi_Ledger}{a2:Int}{y:(List Tapi_Tx)×Int}(h:YE a0 a1 a2=some y):G68 (E68 (a0,a1,a2))=some (R68 (a0,a1,a2) y):=Y1 E68i h
noncomputable abbrev K109:Con Unit Tapi_OutPoint:=cn a0 (r1 (eG eapi_OutPoint)) (fun(_:Unit)=>Lmade_Null)
noncomputable abbrev K69:Con (Int×Int×(List Int)) Tapi_Tx:=cn (a3 (eI .i64) (eI .i64) (eL .u8)) (fun _ y=>(.agg ([.v (.int .u32 y.1),.own 35 (List.map ZaS y.2.1),.own 2 (List.map Y7 y.2.2.1),.v (.int .u32 y.2.2.2)]),[])) (u3 Zd8)
noncomputable abbrev K124:=cn (a2 (eA .u64) (eI .i64)) (r1 eB) (u2 ZaL)
noncomputable abbrev K87:=cn (a2 (eA .u64) (eI .i64)) (r1 (eA .u64)) (u2 ZaM)
noncomputable abbrev K125:=cn (a1 (eA .u64)) (r1 eB) Zbs
noncomputable abbrev K155:=cn (a1 (eI .u64)) (r1 (eA .u64)) XV
noncomputable abbrev K158:=cn (a1 (eA .u64)) (r1 (eI .i64)) Zbt
def Zjb (x:Int×Int×Int):List PV:=[.one (.v (.int .u64 x.1)),.one (.v (.int .u64 x.2.1)),.one (.v (.int .u64 x.2.2))]
theorem E181i:∀ a b,Zjb a=Zjb b→a=b:=by
  rintro⟨a0,a1,a2⟩ ⟨b0,b1,b2⟩ h
  simpa[Zjb,and_assoc] using h
def Zkv (x:Int×Int×Int) (y:Int×Int):PV×List (List Cell):=(.tup [.one (.v (.int .u64 y.1)),.one (.v (.int .u64 y.2))],[])
noncomputable def G181:=Zad Zjb fun x=>(Xc x.1 x.2.1 x.2.2).map (Zkv x)
theorem ZvJ {a0:Int}{a1:Int}{a2:Int}{y:Int×Int}(h:Xc a0 a1 a2=some y):G181 (Zjb (a0,a1,a2))=some (Zkv (a0,a1,a2) y):=Y1 E181i h
noncomputable abbrev K182:Con ((Arr 4)×(Arr 4)) ((Arr 4)×Bool):=cn (a2 (eA .u64) (eA .u64)) (r2 (eA .u64) eB) (u2 ZeF)
noncomputable abbrev K159:=cn (a2 (eA .u64) (eI .i64)) (r1 (eA .u64)) (u2 ZeG)
noncomputable abbrev K121:Con Int ((Arr 4)×Int):=cn (a1 (eI .u32)) (r2 (eA .u64) (eI .i64)) Za3
noncomputable abbrev K122:=cn (a2 (eA .u64) (eA .u64)) (r1 (eI .i64)) (u2 Xb)
noncomputable abbrev K89:=cn (a1 (eG Yx)) (r1 eB) Xe
noncomputable abbrev K70:=cn (a2 (eG Yx) (eI .i64)) (r1 (eI .i64)) (u2 Zbk)
noncomputable abbrev K38:=cn (a1 (eG eapi_Header)) (r1 (oL .u8)) Xq
noncomputable abbrev K20:=cn (a1 (eG eapi_Header)) (r1 (eA .u8)) X5
noncomputable abbrev K131:Con (Int×Int) (Int×Int):=cn (a2 (eI .u64) (eI .u64)) (r2 (eI .u64) (eI .u64)) (u2 XG)
noncomputable abbrev K154:Con ((Arr 4)×(Arr 4)) ((Arr 4)×(Arr 4)):=cn (a2 (eA .u64) (eA .u64)) (r2 (eA .u64) (eA .u64)) (u2 Zgb)
def Zjc (x:Int×Int×Int):List PV:=[.one (.v (.int .u64 x.1)),.one (.v (.int .u64 x.2.1)),.one (.v (.int .u64 x.2.2))]
theorem E199i:∀ a b,Zjc a=Zjc b→a=b:=by
  rintro⟨a0,a1,a2⟩ ⟨b0,b1,b2⟩ h
  simpa[Zjc,and_assoc] using h
def Zkw (x:Int×Int×Int) (y:Int×Int):PV×List (List Cell):=(.tup [.one (.v (.int .u64 y.1)),.one (.v (.int .u64 y.2))],[])
noncomputable def G199:=Zad Zjc fun x=>(Zak x.1 x.2.1 x.2.2).map (Zkw x)
theorem ZvK {a0:Int}{a1:Int}{a2:Int}{y:Int×Int}(h:Zak a0 a1 a2=some y):G199 (Zjc (a0,a1,a2))=some (Zkw (a0,a1,a2) y):=Y1 E199i h
noncomputable abbrev K183:Con ((Arr 4)×(Arr 4)) ((Arr 4)×Bool):=cn (a2 (eA .u64) (eA .u64)) (r2 (eA .u64) eB) (u2 Zf7)
noncomputable abbrev K156:Con ((Arr 4)×(Arr 4)×(Arr 4)) ((Arr 4)×(Arr 4)×Bool):=cn (a3 (eA .u64) (eA .u64) (eA .u64)) (r3 (eA .u64) (eA .u64) eB) (u3 Zgc)
noncomputable abbrev K157:=cn (a1 (eA .u64)) (r1 (eI .u32)) ZcE
noncomputable abbrev K120:Con (Tapi_Params×Int×Int×Int) (Int×Int):=cn (a4 (eG Yx) (eI .u32) (eI .u32) (eI .u32)) (r2 (eI .u32) (eI .i64)) (u4 Zdr)
noncomputable abbrev K83:Con (Tapi_Params×Tapi_Context) (Int×Int):=cn (a2 (eG Yx) (eG YC)) (r2 (eI .u32) (eI .i64)) (u2 Zc6)
noncomputable abbrev K123:=cn (a1 (eA .u8)) (r1 (eA .u64)) Zal
noncomputable abbrev K84:=cn (a2 (eA .u8) (eI .u32)) (r1 eB) (u2 ZcX)
noncomputable abbrev K85:=cn (a1 (eL .u32)) (r1 (eI .u32)) Zb6
noncomputable abbrev K72:Con (Tapi_Params×Tapi_Context×(Arr 32)×Int) Tapi_Header:=cn (a4 (eG Yx) (eG YC) (eA .u8) (eI .u32)) (r1 (eG eapi_Header)) (u4 Zfq)
noncomputable abbrev K110:=cn (a1 (eG ZV)) (r1 (eA .u8)) Zfj
noncomputable abbrev K150:=cn (a1 (eS XQ)) (r1 (oL .u8)) ZaD
noncomputable abbrev K176:=cn (a2 (eA .u8) (eA .u8)) (r1 (eA .u8)) (u2 Zfk)
noncomputable abbrev K143:=cn (a1 (eS (arC .u8))) (r1 (oS 1 ZgK)) Zdn
noncomputable abbrev K111:=cn (a1 (eS (arC .u8))) (r1 (eA .u8)) Zfl
noncomputable abbrev K73:=cn (a1 (eS ZV)) (r1 (eA .u8)) ZdO
noncomputable abbrev K74:=cn (a1 (eI .u8)) (r1 (eI .u32)) Ze1
noncomputable abbrev K43:Con (Tapi_Params×Tapi_Ledger×Tapi_Context×Int) Tapi_Block:=cn (a4 (eG Yx) (eG Xi) (eG YC) (eI .u8)) (fun _ y=>(.agg ((.v (.int .u32 y.1.1)) :: ((arC .u8 y.1.2.1)++((arC .u8 y.1.2.2.1)++((.v (.int .u32 y.1.2.2.2.1)) :: ((.v (.int .u32 y.1.2.2.2.2.1)) :: ((.v (.int .u32 y.1.2.2.2.2.2)) :: ((.own 4 (List.map ZV y.2)) :: []))))))),[])) (u4 Zeh)
def Zgs (x:Tapi_OutPoint×Tapi_OutPoint):List PV:=[.agg ((arC .u8 x.1.1)++((.v (.int .u32 x.1.2)) :: [])),.agg ((arC .u8 x.2.1)++((.v (.int .u32 x.2.2)) :: []))]
theorem E144i:∀ a b,Zgs a=Zgs b→a=b:=by
  rintro⟨⟨a0_0,a0_1⟩,⟨a1_0,a1_1⟩⟩ ⟨⟨b0_0,b0_1⟩,⟨b1_0,b1_1⟩⟩ h
  simpa[Zgs,and_assoc] using h
def Ziv (x:Tapi_OutPoint×Tapi_OutPoint) (y:Int):PV×List (List Cell):=(.one (.v (.int .i64 y)),[])
noncomputable def G144:=Zad Zgs fun x=>(Y3 x.1 x.2).map (Ziv x)
theorem ZqY {a0:Tapi_OutPoint}{a1:Tapi_OutPoint}{y:Int}(h:Y3 a0 a1=some y):G144 (Zgs (a0,a1))=some (Ziv (a0,a1) y):=Y1 E144i h
noncomputable abbrev K112:=cn (a1 (eG Xi)) (r1 eB) Zc0
noncomputable abbrev K151:=cn (a1 (eG eapi_OutPoint)) (r1 eB) ZdL
noncomputable abbrev K116:=cn (a1 (eG ZV)) (r1 eB) XT
noncomputable abbrev K190:Con (Tapi_Tx×Bool) ((List Int)×Int):=cn (a2 (eG ZV) eB) (r2 (eL .u8) (eI .i64)) (u2 Zdo)
noncomputable abbrev K177:=cn (a1 (eG YQ)) (r1 (oL .u8)) Zdp
noncomputable abbrev K145:=cn (a1 (eG YQ)) (r1 eB) Zfm
noncomputable abbrev K146:=cn (a1 (eG ZV)) (r1 (eI .i64)) ZcR
noncomputable abbrev K147:=cn (a2 (eS (arC .u8)) (eA .u8)) (r1 (eI .i64)) (u2 Zc1)
noncomputable abbrev K148:=cn (a2 (eG YQ) (eS (arC .u8))) (r1 eB) (u2 ZcA)
noncomputable abbrev K149:=cn (a1 (eG YQ)) (r1 eB) Zd9
noncomputable abbrev K113:=cn (a1 (eG YQ)) (r1 (eI .i64)) Zea
def Zgt (x:Tapi_Tx×Int):List PV:=[.agg ([.v (.int .u32 x.1.1),.slice .no (List.map ZaS x.1.2.1),.slice .no (List.map Y7 x.1.2.2.1),.v (.int .u32 x.1.2.2.2)]),.one (.v (.int .i64 x.2))]
theorem E114i:∀ a b,Zgt a=Zgt b→a=b:=by
  rintro⟨⟨a0_0,a0_1,a0_2,a0_3⟩,a1⟩ ⟨⟨b0_0,b0_1,b0_2,b0_3⟩,b1⟩ h
  simpa[Zgt,and_assoc] using h
def Ziw (x:Tapi_Tx×Int) (y:Bool):PV×List (List Cell):=(.one (.v (.bool y)),[])
noncomputable def G114:=Zad Zgt fun x=>(X6 x.1 x.2).map (Ziw x)
theorem ZqZ {a0:Tapi_Tx}{a1:Int}{y:Bool}(h:X6 a0 a1=some y):G114 (Zgt (a0,a1))=some (Ziw (a0,a1) y):=Y1 E114i h
noncomputable abbrev K75:=cn (a3 (eG Yx) (eG Xi) (eG YQ)) (r1 (eI .i64)) (u3 Zeb)
noncomputable abbrev K79:=cn (a2 (eS Zr) (eG eapi_OutPoint)) (r1 (eI .i64)) (u2 Zcq)
noncomputable abbrev K115:Con Tapi_Coin Tapi_Coin:=cn (a1 (eG Zr)) (fun _ y=>(.agg ((arC .u8 y.1.1)++((.v (.int .u32 y.1.2)) :: ((.v (.int .i64 y.2.1.1)) :: ((.own 1 (Zf .u8 y.2.1.2)) :: ((.v (.int .i64 y.2.2.1)) :: ((.v (.bool y.2.2.2)) :: [])))))),[])) ZaN
noncomputable abbrev K76:Con (Tapi_Params×(List Tapi_Coin)×Tapi_Tx×Int) ((List Tapi_Coin)×Int):=cn (a4 (eG Yx) (eS Zr) (eG ZV) (eI .i64)) (r2 (eS Zr) (eI .i64)) (u4 Zec)
noncomputable abbrev K117:Con (Tapi_Tx×(List Tapi_Coin)) (Int×Int):=cn (a2 (eG ZV) (eS Zr)) (r2 (eI .i64) (eI .i64)) (u2 Zf2)
def Zhh (x:ByteArray×(List Int)):List PV:=[.one (.v (.string x.1)),.one (.slice .no (Zf .u8 x.2))]
theorem E178i:∀ a b,Zhh a=Zhh b→a=b:=by
  rintro⟨a0,a1⟩ ⟨b0,b1⟩ h
  simpa[Zhh,and_assoc] using h
def Zjd (x:ByteArray×(List Int)) (y:(Arr 32)):PV×List (List Cell):=(.agg (arC .u8 y),[])
noncomputable def G178:=Zad Zhh fun x=>(Zab x.1 x.2).map (Zjd x)
theorem ZvL {a0:ByteArray}{a1:(List Int)}{y:(Arr 32)}(h:Zab a0 a1=some y):G178 (Zhh (a0,a1))=some (Zjd (a0,a1) y):=Y1 E178i h
noncomputable abbrev K152:Con (Tapi_Tx×Int×Tapi_Output) ((Arr 32)×Int):=cn (a3 (eG ZV) (eI .i64) (eG Y7)) (r2 (eA .u8) (eI .i64)) (u3 ZcF)
noncomputable abbrev K153:=cn (a3 (eL .u8) (eS XQ) (eG eapi_Env)) (r1 (eI .i64)) (u3 Zau)
noncomputable abbrev K118:=cn (a4 (eG ZV) (eI .i64) (eG Zr) (eI .i64)) (r1 (eI .i64)) (u4 Zei)
noncomputable abbrev K77:Con (Tapi_Tx×(List Tapi_Coin)×Int) (Int×Int):=cn (a3 (eG ZV) (eS Zr) (eI .i64)) (r2 (eI .i64) (eI .i64)) (u3 Zej)
noncomputable abbrev K78:=cn (a2 (eS Zr) (eI .i64)) (r1 (eS Zr)) (u2 ZcB)
noncomputable abbrev K82:=cn (a2 (eG ZV) (eI .i64)) (r1 (oS 37 Zr)) (u2 Zat)
def Zhi (x:(List Tapi_Coin)×Tapi_Coin):List PV:=[.one (.slice .no (List.map Zr x.1)),.agg ((arC .u8 x.2.1.1)++((.v (.int .u32 x.2.1.2)) :: ((.v (.int .i64 x.2.2.1.1)) :: ((.slice .no (Zf .u8 x.2.2.1.2)) :: ((.v (.int .i64 x.2.2.2.1)) :: ((.v (.bool x.2.2.2.2)) :: []))))))]
theorem E119i:∀ a b,Zhi a=Zhi b→a=b:=by
  rintro⟨a0,⟨⟨a1_0_0,a1_0_1⟩,⟨a1_1_0,a1_1_1⟩,a1_2,a1_3⟩⟩ ⟨b0,⟨⟨b1_0_0,b1_0_1⟩,⟨b1_1_0,b1_1_1⟩,b1_2,b1_3⟩⟩ h
  simpa[Zhi,and_assoc] using h
def Zje (x:(List Tapi_Coin)×Tapi_Coin) (y:(List Tapi_Coin)):PV×List (List Cell):=(.one (.slice .no (List.map Zr y)),[])
noncomputable def G119:=Zad Zhi fun x=>(Zbu x.1 x.2).map (Zje x)
theorem ZvM {a0:(List Tapi_Coin)}{a1:Tapi_Coin}{y:(List Tapi_Coin)}(h:Zbu a0 a1=some y):G119 (Zhi (a0,a1))=some (Zje (a0,a1) y):=Y1 E119i h
noncomputable abbrev K80:Con ((List Tapi_Coin)×Tapi_Tx×Int) ((List Tapi_Coin)×Int):=cn (a3 (eS Zr) (eG ZV) (eI .i64)) (r2 (eS Zr) (eI .i64)) (u3 Zga)
noncomputable abbrev K81:=cn (a1 (eS Zr)) (r1 (eI .i64)) Zc2
noncomputable abbrev K44:Con (Tapi_Params×Tapi_Ledger×Tapi_Block) (Tapi_Ledger×(List Tapi_Coin)×Int):=cn (a3 (eG Yx) (eG Xi) (eG YQ)) (r3 (eG Xi) (eG Zer) (eI .i64)) (u3 Zb0)
noncomputable abbrev K86:=cn (a2 (eG Yx) (eG YC)) (r1 eB) (u2 Zfn)
noncomputable abbrev K46:Con (Tapi_Params×Tapi_Context×Tapi_Header) (Tapi_Context×Int):=cn (a3 (eG Yx) (eG YC) (eG eapi_Header)) (r2 (eG YC) (eI .i64)) (u3 Zbm)
noncomputable abbrev K45:=cn (a4 (eG Yx) (eG YC) (eG eapi_Header) (eI .u32)) (r1 (eI .i64)) (u4 Zb7)
noncomputable abbrev K88:=cn (a1 (eA .u64)) (r1 (eA .u64)) ZhF
noncomputable abbrev K47:Con Int Tapi_Params:=cn (a1 (eI .u8)) (r1 (eG Yx)) Zed
noncomputable abbrev K48:Con Tapi_Params (Tapi_Ledger×Int):=cn (a1 (eG Yx)) (r2 (eG Xi) (eI .i64)) Zee
noncomputable abbrev K49:Con Tapi_Params (Tapi_Context×Int):=cn (a1 (eG Yx)) (r2 (eG YC) (eI .i64)) Zef
noncomputable abbrev K31:Con Int Tlightclientmade_World:=cn (a1 (eI .u8)) (fun _ y=>(.agg ((.v (.int .u32 y.1.1.1)) :: ((arC .u8 y.1.1.2.1)++((arC .u8 y.1.1.2.2.1)++((.v (.int .u32 y.1.1.2.2.2.1)) :: ((.v (.int .u32 y.1.1.2.2.2.2.1)) :: ((.v (.int .u32 y.1.1.2.2.2.2.2)) :: ((arC .u64 y.1.2.1)++((.v (.int .i64 y.1.2.2.1)) :: ((.v (.int .u32 y.1.2.2.2.1)) :: ((.v (.int .u32 y.1.2.2.2.2.1)) :: ((.v (.int .u32 y.1.2.2.2.2.2.1)) :: ((.slice .no (List.map eapi_Checkpoint y.1.2.2.2.2.2.2.1)) :: ((.v (.int .i64 y.1.2.2.2.2.2.2.2.1)) :: ((.v (.int .i64 y.1.2.2.2.2.2.2.2.2.1)) :: ((.v (.int .i64 y.1.2.2.2.2.2.2.2.2.2)) :: ((.slice .no (List.map YQ y.2.1)) :: ((.own 34 (List.map Xi y.2.2.1)) :: ((.own 36 (List.map YC y.2.2.2.1)) :: ((.slice .no (List.map Zer y.2.2.2.2)) :: []))))))))))))))))))),[])) Zfo
def E30_1 (x:Tlightclientmade_World×(List Int)):List PV:=[.agg ((.v (.int .u32 x.1.1.1.1)) :: ((arC .u8 x.1.1.1.2.1)++((arC .u8 x.1.1.1.2.2.1)++((.v (.int .u32 x.1.1.1.2.2.2.1)) :: ((.v (.int .u32 x.1.1.1.2.2.2.2.1)) :: ((.v (.int .u32 x.1.1.1.2.2.2.2.2)) :: ((arC .u64 x.1.1.2.1)++((.v (.int .i64 x.1.1.2.2.1)) :: ((.v (.int .u32 x.1.1.2.2.2.1)) :: ((.v (.int .u32 x.1.1.2.2.2.2.1)) :: ((.v (.int .u32 x.1.1.2.2.2.2.2.1)) :: ((.slice .no (List.map eapi_Checkpoint x.1.1.2.2.2.2.2.2.1)) :: ((.v (.int .i64 x.1.1.2.2.2.2.2.2.2.1)) :: ((.v (.int .i64 x.1.1.2.2.2.2.2.2.2.2.1)) :: ((.v (.int .i64 x.1.1.2.2.2.2.2.2.2.2.2)) :: ((.slice .no (List.map YQ x.1.2.1)) :: ((.own 34 (List.map Xi x.1.2.2.1)) :: ((.own 36 (List.map YC x.1.2.2.2.1)) :: ((.slice .no (List.map Zer x.1.2.2.2.2)) :: []))))))))))))))))))),.one (.slice .no (Zf .u8 x.2))]
instance:YB E30_1:=⟨by intro a b h; simpa[E30_1,Prod.ext_iff,and_assoc] using h⟩
noncomputable abbrev K30_1:Con (Tlightclientmade_World×(List Int)) Tlightclientmade_World:=cn E30_1 (fun _ y=>(.agg ((.v (.int .u32 y.1.1.1)) :: ((arC .u8 y.1.1.2.1)++((arC .u8 y.1.1.2.2.1)++((.v (.int .u32 y.1.1.2.2.2.1)) :: ((.v (.int .u32 y.1.1.2.2.2.2.1)) :: ((.v (.int .u32 y.1.1.2.2.2.2.2)) :: ((arC .u64 y.1.2.1)++((.v (.int .i64 y.1.2.2.1)) :: ((.v (.int .u32 y.1.2.2.2.1)) :: ((.v (.int .u32 y.1.2.2.2.2.1)) :: ((.v (.int .u32 y.1.2.2.2.2.2.1)) :: ((.slice .no (List.map eapi_Checkpoint y.1.2.2.2.2.2.2.1)) :: ((.v (.int .i64 y.1.2.2.2.2.2.2.2.1)) :: ((.v (.int .i64 y.1.2.2.2.2.2.2.2.2.1)) :: ((.v (.int .i64 y.1.2.2.2.2.2.2.2.2.2)) :: ((.own 69 (List.map YQ y.2.1)) :: ((.own 34 (List.map Xi y.2.2.1)) :: ((.own 36 (List.map YC y.2.2.2.1)) :: ((.own 1 (List.map Zer y.2.2.2.2)) :: []))))))))))))))))))),[])) (u2 Zfr)
noncomputable abbrev K17:Con (Int×(List Int)) Tlightclientmade_World:=cn (a2 (eI .u8) (eL .u8)) (fun _ y=>(.agg ((.v (.int .u32 y.1.1.1)) :: ((arC .u8 y.1.1.2.1)++((arC .u8 y.1.1.2.2.1)++((.v (.int .u32 y.1.1.2.2.2.1)) :: ((.v (.int .u32 y.1.1.2.2.2.2.1)) :: ((.v (.int .u32 y.1.1.2.2.2.2.2)) :: ((arC .u64 y.1.2.1)++((.v (.int .i64 y.1.2.2.1)) :: ((.v (.int .u32 y.1.2.2.2.1)) :: ((.v (.int .u32 y.1.2.2.2.2.1)) :: ((.v (.int .u32 y.1.2.2.2.2.2.1)) :: ((.slice .no (List.map eapi_Checkpoint y.1.2.2.2.2.2.2.1)) :: ((.v (.int .i64 y.1.2.2.2.2.2.2.2.1)) :: ((.v (.int .i64 y.1.2.2.2.2.2.2.2.2.1)) :: ((.v (.int .i64 y.1.2.2.2.2.2.2.2.2.2)) :: ((.own 69 (List.map YQ y.2.1)) :: ((.own 34 (List.map Xi y.2.2.1)) :: ((.own 36 (List.map YC y.2.2.2.1)) :: ((.own 1 (List.map Zer y.2.2.2.2)) :: []))))))))))))))))))),[])) (u2 Zek)
noncomputable abbrev K18:=cn (a2 (eL .u8) (eI .i64)) (r1 (eL .u8)) (u2 Zgd)
noncomputable abbrev K90:=cn (a2 (eL .u8) (eA .u8)) (r1 (oL .u8)) (u2 Xj)
noncomputable abbrev K50:=cn (a1 (eG eapi_Header)) (r1 (oL .u8)) Xp
noncomputable abbrev K57:=cn (a1 (eG eapi_OutPoint)) (r1 (oL .u8)) Zep
noncomputable abbrev K92:=cn (a2 (eG ZV) eB) (r1 (oL .u8)) (u2 ZeB)
noncomputable abbrev K91:=cn (a1 (eG ZV)) (r1 eB) Zg4
noncomputable abbrev K51:Con (Tapi_Tx×Bool) ((List Int)×Int):=cn (a2 (eG ZV) eB) (r2 (eL .u8) (eI .i64)) (u2 Zf3)
noncomputable abbrev K32:Con Tapi_Block ((List Int)×Int):=cn (a1 (eG YQ)) (r2 (eL .u8) (eI .i64)) Zdm
noncomputable abbrev K52:=cn (a1 (eL .u8)) (r1 (eI .u64)) ZbJ
noncomputable abbrev K33:=cn (a1 (eA .u8)) (r1 (eA .u64)) Zh9
noncomputable abbrev K34:=cn (a1 (eG eapi_Header)) (r1 (eA .u8)) Zfi
noncomputable abbrev K160:=cn (a1 (eI .u64)) (r1 eB) XN
noncomputable abbrev K126:=cn (a2 (eI .u64) (eI .u64)) (r1 eB) (u2 YW)
noncomputable abbrev K93:=cn (a1 (eL .u64)) (r1 eB) Z7
noncomputable abbrev K127:=cn (a1 (eG Zhr)) (r1 eB) Zff
noncomputable abbrev K128:Con Tapi_Bits Tapi_Bits:=cn (a1 (eG Zhr)) (fun _ y=>(.io ([.own 1 (Zf .u8 y.1),.v (.int .i64 y.2)]),[])) Zfg
def E129_2 (x:Tapi_Bits×Bool):List PV:=[.io ([.own 1 (Zf .u8 x.1.1),.v (.int .i64 x.1.2)]),.one (.v (.bool x.2))]
instance:YB E129_2:=⟨by intro a b h; simpa[E129_2,Prod.ext_iff,and_assoc] using h⟩
noncomputable abbrev K129_2:Con (Tapi_Bits×Bool) Tapi_Bits:=cn E129_2 (fun _ y=>(.tup [],[[.own 1 (Zf .u8 y.1),.v (.int .i64 y.2)]])) (u2 XF)
def E130_3 (x:Tapi_Bits×Int×Int):List PV:=[.io ([.own 1 (Zf .u8 x.1.1),.v (.int .i64 x.1.2)]),.one (.v (.int .u64 x.2.1)),.one (.v (.int .i64 x.2.2))]
instance:YB E130_3:=⟨by intro a b h; simpa[E130_3,Prod.ext_iff,and_assoc] using h⟩
noncomputable abbrev K130_3:Con (Tapi_Bits×Int×Int) Tapi_Bits:=cn E130_3 (fun _ y=>(.tup [],[[.own 1 (Zf .u8 y.1),.v (.int .i64 y.2)]])) (u3 XW)
noncomputable abbrev K94:Con (Tapi_Bits×Int×Int) (Tapi_Bits×Int):=cn (a3 (eG Zhr) (eI .u64) (eI .i64)) (r2 (eG Zhr) (eI .i64)) (u3 Zaj)
noncomputable abbrev K53:Con ((List Int)×Int) (Tapi_Filter×Int):=cn (a2 (eL .u64) (eI .i64)) (r2 (eG X8) (eI .i64)) (u2 Zbf)
noncomputable abbrev K95:=cn (a2 (eI .u64) (eI .u64)) (r1 (eI .u64)) (u2 ZhA)
noncomputable abbrev K161:=cn (a2 (eI .u64) (eI .i64)) (r1 (eI .u64)) (u2 ZP)
noncomputable abbrev K133:=cn (a2 (eA .u64) (eI .i64)) (r1 (eA .u64)) (u2 Zfh)
noncomputable abbrev K132:=cn (a2 (eA .u64) (eI .u64)) (r1 (eA .u64)) (u2 ZdM)
noncomputable abbrev K96:=cn (a2 (eA .u64) (eL .u8)) (r1 (eI .u64)) (u2 Zh8)
def E170 (x:Int):List PV:=[.one (.v (.int .u32 x))]
def R170 (x:Int) (y:Int):PV×List (List Cell):=(.one (.v (.int .i64 y)),[])
noncomputable def G170:=Zad E170 fun x=>(ZjV x).map (R170 x)
def Zjf (x:Int):List PV:=[.one (.v (.int .u64 x))]
theorem E171i:∀ a b,Zjf a=Zjf b→a=b:=by
  rintro a0 b0 h
  simpa[Zjf,and_assoc] using h
def Zll (x:Int) (y:Int):PV×List (List Cell):=(.one (.v (.int .i64 y)),[])
noncomputable def G171:=Zad Zjf fun x=>(Zbg x).map (Zll x)
theorem ZvN {a0:Int}{y:Int}(h:Zbg a0=some y):G171 (Zjf a0)=some (Zll a0 y):=Y1 E171i h
noncomputable abbrev K135:=cn (a1 (eI .u64)) (r1 (eI .i64)) Zcx
def Zcf (x:(List Int)×Int×Int):List PV:=[.rio 1 (Zf .u64 x.1),.one (.v (.int .i64 x.2.1)),.one (.v (.int .i64 x.2.2))]
theorem E162_4i:∀ a b,Zcf a=Zcf b→a=b:=by
  rintro⟨a0,a1,a2⟩ ⟨b0,b1,b2⟩ h
  simpa[Zcf,and_assoc] using h
def Zen (x:(List Int)×Int×Int) (y:(List Int)):PV×List (List Cell):=(.tup [],[(Zf .u64 y).flatten])
noncomputable def G162_4:=Zad Zcf fun x=>(Zt x.1 x.2.1 x.2.2).map (Zen x)
theorem ZoF {a0:(List Int)}{a1:Int}{a2:Int}{y:(List Int)}(h:Zt a0 a1 a2=some y):G162_4 (Zcf (a0,a1,a2))=some (Zen (a0,a1,a2) y):=Y1 E162_4i h
def Zcg (x:(List Int)×Int×Int×Int):List PV:=[.rio 1 (Zf .u64 x.1),.one (.v (.int .i64 x.2.1)),.one (.v (.int .i64 x.2.2.1)),.one (.v (.int .i64 x.2.2.2))]
theorem E134_5i:∀ a b,Zcg a=Zcg b→a=b:=by
  rintro⟨a0,a1,a2,a3⟩ ⟨b0,b1,b2,b3⟩ h
  simpa[Zcg,and_assoc] using h
def Zeo (x:(List Int)×Int×Int×Int) (y:(List Int)):PV×List (List Cell):=(.tup [],[(Zf .u64 y).flatten])
noncomputable def G134_5:=Zad Zcg fun x=>(Yv x.1 x.2.1 x.2.2.1 x.2.2.2).map (Zeo x)
theorem Ztr {a0:(List Int)}{a1:Int}{a2:Int}{a3:Int}{y:(List Int)}(h:Yv a0 a1 a2 a3=some y):G134_5 (Zcg (a0,a1,a2,a3))=some (Zeo (a0,a1,a2,a3) y):=Y1 E134_5i h
noncomputable def ZnY (n:Nat):=Zad Zcg fun x=>(Lslices_pdqsortOrdered_of_uint64w_n n x.1 x.2.1 x.2.2.1 x.2.2.2).map (Zeo x)
noncomputable abbrev K97_6:=cn (a1 (oR .u64)) (rio (lR .u64)) Yi
noncomputable abbrev K54:=cn (a4 (eA .u64) (eS XQ) (eI .i64) (eI .u64)) (r1 (oL .u64)) (u4 ZbZ)
noncomputable abbrev K35:Con ((Arr 2)×(List (List Int))×Int×Int) (Tapi_Filter×Int):=cn (a4 (eA .u64) (eS XQ) (eI .i64) (eI .u64)) (r2 (eG X8) (eI .i64)) (u4 ZcD)
def E55 (x:(List Int)):List PV:=[.one (.slice .no (Zf .u8 x))]
theorem E55i:∀ a b,E55 a=E55 b→a=b:=by
  rintro a0 b0 h
  simpa[E55,and_assoc] using h
def R55 (x:(List Int)) (y:(List Int)):PV×List (List Cell):=(.one (.own 1 (Zf .u8 y)),[])
noncomputable def G55:=Zad E55 fun x=>(Yo x).map (R55 x)
theorem ZwA {a0:(List Int)}{y:(List Int)}(h:Yo a0=some y):G55 (E55 a0)=some (R55 a0 y):=Y1 E55i h
noncomputable abbrev K98:=cn (a1 (eG eapi_OutPoint)) (r1 eB) ZjU
noncomputable abbrev K56:=cn (a1 (eG ZV)) (r1 eB) ZcQ
noncomputable abbrev K36:=cn (a1 (eG YQ)) (r1 (oS 1 XQ)) Zbi
noncomputable abbrev K19:Con Tapi_Block (Tapi_Filter×Int):=cn (a1 (eG YQ)) (r2 (eG X8) (eI .i64)) ZdP
noncomputable abbrev K6:Con (Int×(List Int)) (Tapi_FilterChain×(List Tapi_Filter)×Bool):=cn (a2 (eI .u8) (eL .u8)) (r3 (eG XK) (eS X8) eB) (u2 Zel)
noncomputable abbrev K7:=cn (a3 (eG XK) (eI .i64) (eG X8)) (r1 (eI .i64)) (u3 Yn)
noncomputable abbrev K3:=cn (a3 (eI .u8) (eL .u8) (eG X8)) (r1 eB) (u3 Zbx)
theorem rg {tt:TT}{T:Tab}{G:Glob}{a b:List Oper}{st st1:ASt}(h:Zcj tt T G a b st=some st1:=by
  first
    | (simp[-Int.ofNat_toNat,ZC, *] <;> first | rfl | (repeat (simp(disch:=omega) only[leT,ltT,Zi6,Zi7,leF,ltF,Zi8,Zi9,Za1]; try simp[-Int.ofNat_toNat,ZC, *])) <;> rfl)
    | fail):Zcj tt T G a b st=some st1:=h
theorem dr {tt:TT}{T:Tab}{G:Glob}{a b:List Oper}{st st1:ASt}{fs:List Foot}(h:ZcH tt T G a b st=some (st1,fs):=by
  first
    | (simp[-Int.ofNat_toNat,ZC, *] <;> first | exact⟨rfl,rfl⟩ | rfl | (repeat (simp(disch:=omega) only[leT,ltT,Zi6,Zi7,leF,ltF,Zi8,Zi9,Za1]; try simp[-Int.ofNat_toNat,ZC, *])) <;> first | exact⟨rfl,rfl⟩ | rfl)
    | fail):ZcH tt T G a b st=some (st1,fs):=h
theorem rgA {tt:TT}{T:Tab}{G:Glob}{a b:List Oper}{st st1:ASt}(h:Zcj tt T G a b st=some st1:=by
  first
    | (simp[-Int.ofNat_toNat,Nat.add_assoc,ZC, *] <;> first | rfl | (repeat (simp(disch:=omega) only[leT,ltT,Zi6,Zi7,leF,ltF,Zi8,Zi9,Za1]; try simp[-Int.ofNat_toNat,Nat.add_assoc,ZC, *])) <;> rfl)
    | fail):Zcj tt T G a b st=some st1:=h
theorem drA {tt:TT}{T:Tab}{G:Glob}{a b:List Oper}{st st1:ASt}{fs:List Foot}(h:ZcH tt T G a b st=some (st1,fs):=by
  first
    | (simp[-Int.ofNat_toNat,Nat.add_assoc,ZC, *] <;> first | exact⟨rfl,rfl⟩ | rfl | (repeat (simp(disch:=omega) only[leT,ltT,Zi6,Zi7,leF,ltF,Zi8,Zi9,Za1]; try simp[-Int.ofNat_toNat,Nat.add_assoc,ZC, *])) <;> first | exact⟨rfl,rfl⟩ | rfl)
    | fail):ZcH tt T G a b st=some (st1,fs):=h
theorem rgAD {tt:TT}{T:Tab}{G:Glob}{a b:List Oper}{st st1:ASt}(h:Zcj tt T G a b st=some st1:=by
  first
    | (simp[-Int.ofNat_toNat,Nat.add_assoc,-Int.natCast_tdiv_eq_ediv,ZC, *] <;> first | rfl | (repeat (simp(disch:=omega) only[leT,ltT,Zi6,Zi7,leF,ltF,Zi8,Zi9,Za1]; try simp[-Int.ofNat_toNat,Nat.add_assoc,-Int.natCast_tdiv_eq_ediv,ZC, *])) <;> rfl)
    | fail):Zcj tt T G a b st=some st1:=h
theorem drAD {tt:TT}{T:Tab}{G:Glob}{a b:List Oper}{st st1:ASt}{fs:List Foot}(h:ZcH tt T G a b st=some (st1,fs):=by
  first
    | (simp[-Int.ofNat_toNat,Nat.add_assoc,-Int.natCast_tdiv_eq_ediv,ZC, *] <;> first | exact⟨rfl,rfl⟩ | rfl | (repeat (simp(disch:=omega) only[leT,ltT,Zi6,Zi7,leF,ltF,Zi8,Zi9,Za1]; try simp[-Int.ofNat_toNat,Nat.add_assoc,-Int.natCast_tdiv_eq_ediv,ZC, *])) <;> first | exact⟨rfl,rfl⟩ | rfl)
    | fail):ZcH tt T G a b st=some (st1,fs):=h
theorem Zts {tt:TT}{T:Tab}{G:Glob}{a b:List Oper}{st st1:ASt}(h:Zcj tt T G a b st=some st1:=by
  first
    | (simp[-Int.ofNat_toNat,Nat.add_assoc,-Int.natCast_tdiv_eq_ediv,List.range,List.range.loop,-Yu,-List.take_append,-List.drop_append,ZC, *] <;> first | rfl | (repeat (simp(disch:=omega) only[leT,ltT,Zi6,Zi7,leF,ltF,Zi8,Zi9,Za1]; try simp[-Int.ofNat_toNat,Nat.add_assoc,-Int.natCast_tdiv_eq_ediv,List.range,List.range.loop,-Yu,-List.take_append,-List.drop_append,ZC, *])) <;> rfl)
    | fail):Zcj tt T G a b st=some st1:=h
theorem Ztt {tt:TT}{T:Tab}{G:Glob}{a b:List Oper}{st st1:ASt}{fs:List Foot}(h:ZcH tt T G a b st=some (st1,fs):=by
  first
    | (simp[-Int.ofNat_toNat,Nat.add_assoc,-Int.natCast_tdiv_eq_ediv,List.range,List.range.loop,-Yu,-List.take_append,-List.drop_append,ZC, *] <;> first | exact⟨rfl,rfl⟩ | rfl | (repeat (simp(disch:=omega) only[leT,ltT,Zi6,Zi7,leF,ltF,Zi8,Zi9,Za1]; try simp[-Int.ofNat_toNat,Nat.add_assoc,-Int.natCast_tdiv_eq_ediv,List.range,List.range.loop,-Yu,-List.take_append,-List.drop_append,ZC, *])) <;> first | exact⟨rfl,rfl⟩ | rfl)
    | fail):ZcH tt T G a b st=some (st1,fs):=h
theorem rgL {tt:TT}{T:Tab}{G:Glob}{a b:List Oper}{st st1:ASt}(h:Zcj tt T G a b st=some st1:=by
  first
    | (simp[-Int.ofNat_toNat,-Zs,Zo,ZC, *] <;> first | rfl | (repeat (simp(disch:=omega) only[leT,ltT,Zi6,Zi7,leF,ltF,Zi8,Zi9,Za1]; try simp[-Int.ofNat_toNat,-Zs,Zo,ZC, *])) <;> rfl)
    | fail):Zcj tt T G a b st=some st1:=h
theorem drL {tt:TT}{T:Tab}{G:Glob}{a b:List Oper}{st st1:ASt}{fs:List Foot}(h:ZcH tt T G a b st=some (st1,fs):=by
  first
    | (simp[-Int.ofNat_toNat,-Zs,Zo,ZC, *] <;> first | exact⟨rfl,rfl⟩ | rfl | (repeat (simp(disch:=omega) only[leT,ltT,Zi6,Zi7,leF,ltF,Zi8,Zi9,Za1]; try simp[-Int.ofNat_toNat,-Zs,Zo,ZC, *])) <;> first | exact⟨rfl,rfl⟩ | rfl)
    | fail):ZcH tt T G a b st=some (st1,fs):=h
theorem rgR {tt:TT}{T:Tab}{G:Glob}{a b:List Oper}{st st1:ASt}(h:Zcj tt T G a b st=some st1:=by
  first
    | (simp[-Int.ofNat_toNat,List.range,List.range.loop,ZC, *] <;> first | rfl | (repeat (simp(disch:=omega) only[leT,ltT,Zi6,Zi7,leF,ltF,Zi8,Zi9,Za1]; try simp[-Int.ofNat_toNat,List.range,List.range.loop,ZC, *])) <;> rfl)
    | fail):Zcj tt T G a b st=some st1:=h
theorem drR {tt:TT}{T:Tab}{G:Glob}{a b:List Oper}{st st1:ASt}{fs:List Foot}(h:ZcH tt T G a b st=some (st1,fs):=by
  first
    | (simp[-Int.ofNat_toNat,List.range,List.range.loop,ZC, *] <;> first | exact⟨rfl,rfl⟩ | rfl | (repeat (simp(disch:=omega) only[leT,ltT,Zi6,Zi7,leF,ltF,Zi8,Zi9,Za1]; try simp[-Int.ofNat_toNat,List.range,List.range.loop,ZC, *])) <;> first | exact⟨rfl,rfl⟩ | rfl)
    | fail):ZcH tt T G a b st=some (st1,fs):=h
theorem au {P:Prop}{R1 R2 R3:Prop}(k1:R1:=by exact trivial) (k2:R2:=by exact trivial) (k3:R3:=by exact trivial) (t:∀ X1:Prop,X1→ZaO X1 R1→∀ X2:Prop,X2→ZaO X2 R2→∀ X3:Prop,X3→ZaO X3 R3→P:=by
  intro X1 x1 e1 X2 x2 e2 X3 x3 e3;try simp only[upd,ZhS,updB,setB,List.foldl,List.set,und,List.replicate,List.cons_append,List.nil_append,reduceIte,Nat.lt_irrefl,Nat.reduceLT]
  repeat' (first
    | (with_reducible refine Zjy ?_)
    | (with_reducible refine Zjx (by assumption) ?_)
    | ((with_reducible refine ZjZ ?_); intro v f f f)
    | (with_reducible refine Zig (by assumption) ?_)
    | ((with_reducible refine ZkD ?_); intro f; try simp only[List.length_replicate,List.length_set,List.length_take,List.length_drop,List.length_append] at f)
    | ((with_reducible refine Zjw ?_); intro v f f; try simp only[Con.Q,kS,nf,nfs,Xf,E25,R25,Zgr,Ziu,E58,R58,E68,R68,Zjb,Zkv,Zjc,Zkw,Zgs,Ziv,Zgt,Ziw,Zhh,Zjd,Zhi,Zje,E30_1,E129_2,E130_3,Zjf,Zll,Zcf,Zen,Zcg,Zeo,E55,R55,List.length_replicate,List.length_set] at f)
    | ((with_reducible refine ZkG ?_); intro e; subst e; refine ZjA ?_)
    | ((with_reducible refine ZkF ?_); intro v e; (try rw[e]))
    | (with_reducible refine Zhm ?_)
    | (with_reducible exact im_none)
    | (with_reducible exact Zih)
    | ((with_reducible refine XZ ?_); (repeat (first | revert f | revert g | revert e | revert v)); exact Zfx e1 x1)
    | ((with_reducible refine XZ ?_); (repeat (first | revert f | revert g | revert e | revert v)); exact Zfx e2 x2)
    | ((with_reducible refine XZ ?_); (repeat (first | revert f | revert g | revert e | revert v)); exact Zfx e3 x3)
    | (with_reducible refine ZeJ ?_)
    | (with_reducible refine Zbz ?_)
    | (with_reducible refine ZaP ?_)
    | (with_reducible refine ZbA ?_)
    | (with_reducible refine Zco ?_)
    | (with_reducible refine ZeK ?_)
    | (with_reducible refine Zgf ?_)
    | (with_reducible refine Zgg ?_)
    | (with_reducible refine ZhR ?_)
    | ((with_reducible refine Yz ?_ ?_); · simp[-Int.ofNat_toNat,bV, *]; done)
    | ((with_reducible refine YA ?_ ?_); · simp[-Int.ofNat_toNat,bV, *]; done)
    | (refine Zcn rfl rg ?_)
    | (refine Zby rfl dr (by kernel_rfl) ?_)
    | ((with_reducible refine Zam ?_ ?_); · simp[-Int.ofNat_toNat,bV, *]; done)
    | ((with_reducible refine Zan ?_ ?_); · simp[-Int.ofNat_toNat,bV, *]; done)
    | (refine ZhQ rfl rg ?_)
    | (refine Zge rfl dr (by kernel_rfl) ?_)
    | (refine ZeL ?_ (by simp only[pq,reduceCtorEq]; rfl))
    | (refine ZeL ?_ (if_neg (by decide)))
    | (with_reducible refine Zem (by assumption) ?_)
    | (with_reducible refine Zem (of_eq_true (by assumption)) ?_)
    | (with_reducible refine Zj0 (by assumption) ?_)
    | (with_reducible refine ZcG (by assumption) ?_)
    | (with_reducible refine ZcG (of_eq_true (by assumption)) ?_)
    | (with_reducible refine Zii (by assumption) ?_)
    | (with_reducible refine Zjz ?_)
    | (with_reducible refine Zij ?_)
    | (with_reducible refine Zik ?_)
    | ((with_reducible refine Zmd ?_ ?_) <;> (intro f; (try replace f:=Classical.not_not.1 f); have g:=nrm f; try replace f:=eqI f))
    | ((with_reducible refine ZkE ?_ ?_) <;> (intro f; (try replace f:=Classical.not_not.1 f); have g:=nrm f; try replace f:=eqI f))
    | ((with_reducible refine Yz ?_ ?_); · simp[-Int.ofNat_toNat,bV, *]; omega)
    | ((with_reducible refine YA ?_ ?_); · simp[-Int.ofNat_toNat,bV, *]; omega)
    | ((with_reducible refine Zam ?_ ?_); · simp[-Int.ofNat_toNat,bV, *]; omega)
    | ((with_reducible refine Zan ?_ ?_); · simp[-Int.ofNat_toNat,bV, *]; omega)
    | ((with_reducible refine Zme ?_); intro e; (try rw[e]))
    | ((fail_if_success (have:v=true:=by assumption)); (fail_if_success (have:v=false:=by assumption)); (with_reducible refine ZjB v ?_ ?_) <;> (intro f; try (exfalso; simp_all; done)))
    | (intro _; simp[-Int.ofNat_toNat,ZaA,ZC, *]; done)
    | (intro _; simp only[pq,reduceCtorEq]; simp[-Int.ofNat_toNat,und,List.replicate,Nat.add_assoc,upd,ZhS,updB, *]; done))):P:=t R1 k1 ⟨rfl⟩ R2 k2 ⟨rfl⟩ R3 k3 ⟨rfl⟩
theorem auA {P:Prop}{R1 R2 R3:Prop}(k1:R1:=by exact trivial) (k2:R2:=by exact trivial) (k3:R3:=by exact trivial) (t:∀ X1:Prop,X1→ZaO X1 R1→∀ X2:Prop,X2→ZaO X2 R2→∀ X3:Prop,X3→ZaO X3 R3→P:=by
  intro X1 x1 e1 X2 x2 e2 X3 x3 e3;try simp only[upd,ZhS,updB,setB,List.foldl,List.set,und,List.replicate,List.cons_append,List.nil_append,reduceIte,Nat.lt_irrefl,Nat.reduceLT]
  repeat' (first
    | (with_reducible refine Zjy ?_)
    | (with_reducible refine Zjx (by assumption) ?_)
    | ((with_reducible refine ZjZ ?_); intro v f f f)
    | (with_reducible refine Zig (by assumption) ?_)
    | ((with_reducible refine ZkD ?_); intro f; try simp only[List.length_replicate,List.length_set,List.length_take,List.length_drop,List.length_append] at f)
    | ((with_reducible refine Zjw ?_); intro v f f; try simp only[Con.Q,kS,nf,nfs,Xf,E25,R25,Zgr,Ziu,E58,R58,E68,R68,Zjb,Zkv,Zjc,Zkw,Zgs,Ziv,Zgt,Ziw,Zhh,Zjd,Zhi,Zje,E30_1,E129_2,E130_3,Zjf,Zll,Zcf,Zen,Zcg,Zeo,E55,R55,List.length_replicate,List.length_set] at f)
    | ((with_reducible refine ZkG ?_); intro e; subst e; refine ZjA ?_)
    | ((with_reducible refine ZkF ?_); intro v e; (try rw[e]))
    | (with_reducible refine Zhm ?_)
    | (with_reducible exact im_none)
    | (with_reducible exact Zih)
    | ((with_reducible refine XZ ?_); (repeat (first | revert f | revert g | revert e | revert v)); exact Zfx e1 x1)
    | ((with_reducible refine XZ ?_); (repeat (first | revert f | revert g | revert e | revert v)); exact Zfx e2 x2)
    | ((with_reducible refine XZ ?_); (repeat (first | revert f | revert g | revert e | revert v)); exact Zfx e3 x3)
    | (with_reducible refine ZeJ ?_)
    | (with_reducible refine Zbz ?_)
    | (with_reducible refine ZaP ?_)
    | (with_reducible refine ZbA ?_)
    | (with_reducible refine Zco ?_)
    | (with_reducible refine ZeK ?_)
    | (with_reducible refine Zgf ?_)
    | (with_reducible refine Zgg ?_)
    | (with_reducible refine ZhR ?_)
    | ((with_reducible refine Yz ?_ ?_); · simp[-Int.ofNat_toNat,bV, *]; done)
    | ((with_reducible refine YA ?_ ?_); · simp[-Int.ofNat_toNat,bV, *]; done)
    | (refine Zcn rfl rgA ?_)
    | (refine Zby rfl drA (by kernel_rfl) ?_)
    | ((with_reducible refine Zam ?_ ?_); · simp[-Int.ofNat_toNat,bV, *]; done)
    | ((with_reducible refine Zan ?_ ?_); · simp[-Int.ofNat_toNat,bV, *]; done)
    | (refine ZhQ rfl rgA ?_)
    | (refine Zge rfl drA (by kernel_rfl) ?_)
    | (refine ZeL ?_ (by simp only[pq,reduceCtorEq]; rfl))
    | (refine ZeL ?_ (if_neg (by decide)))
    | (with_reducible refine Zem (by assumption) ?_)
    | (with_reducible refine Zem (of_eq_true (by assumption)) ?_)
    | (with_reducible refine Zj0 (by assumption) ?_)
    | (with_reducible refine ZcG (by assumption) ?_)
    | (with_reducible refine ZcG (of_eq_true (by assumption)) ?_)
    | (with_reducible refine Zii (by assumption) ?_)
    | (with_reducible refine Zjz ?_)
    | (with_reducible refine Zij ?_)
    | (with_reducible refine Zik ?_)
    | ((with_reducible refine Zmd ?_ ?_) <;> (intro f; (try replace f:=Classical.not_not.1 f); have g:=nrm f; try replace f:=eqI f))
    | ((with_reducible refine ZkE ?_ ?_) <;> (intro f; (try replace f:=Classical.not_not.1 f); have g:=nrm f; try replace f:=eqI f))
    | ((with_reducible refine Yz ?_ ?_); · simp[-Int.ofNat_toNat,bV, *]; omega)
    | ((with_reducible refine YA ?_ ?_); · simp[-Int.ofNat_toNat,bV, *]; omega)
    | ((with_reducible refine Zam ?_ ?_); · simp[-Int.ofNat_toNat,bV, *]; omega)
    | ((with_reducible refine Zan ?_ ?_); · simp[-Int.ofNat_toNat,bV, *]; omega)
    | ((with_reducible refine Zme ?_); intro e; (try rw[e]))
    | ((fail_if_success (have:v=true:=by assumption)); (fail_if_success (have:v=false:=by assumption)); (with_reducible refine ZjB v ?_ ?_) <;> (intro f; try (exfalso; simp_all; done)))
    | (intro _; simp[-Int.ofNat_toNat,ZaA,ZC, *]; done)
    | (intro _; simp only[pq,reduceCtorEq]; simp[-Int.ofNat_toNat,und,List.replicate,Nat.add_assoc,upd,ZhS,updB, *]; done))):P:=t R1 k1 ⟨rfl⟩ R2 k2 ⟨rfl⟩ R3 k3 ⟨rfl⟩
theorem ZhW {P:Prop}{R1 R2 R3:Prop}(k1:R1:=by exact trivial) (k2:R2:=by exact trivial) (k3:R3:=by exact trivial) (t:∀ X1:Prop,X1→ZaO X1 R1→∀ X2:Prop,X2→ZaO X2 R2→∀ X3:Prop,X3→ZaO X3 R3→P:=by
  intro X1 x1 e1 X2 x2 e2 X3 x3 e3;try simp only[upd,ZhS,updB,setB,List.foldl,List.set,und,List.replicate,List.cons_append,List.nil_append,reduceIte,Nat.lt_irrefl,Nat.reduceLT]
  repeat' (first
    | (with_reducible refine Zjy ?_)
    | (with_reducible refine Zjx (by assumption) ?_)
    | ((with_reducible refine ZjZ ?_); intro v f f f)
    | (with_reducible refine Zig (by assumption) ?_)
    | ((with_reducible refine ZkD ?_); intro f; try simp only[List.length_replicate,List.length_set,List.length_take,List.length_drop,List.length_append] at f)
    | ((with_reducible refine Zjw ?_); intro v f f; try simp only[Con.Q,kS,nf,nfs,Xf,E25,R25,Zgr,Ziu,E58,R58,E68,R68,Zjb,Zkv,Zjc,Zkw,Zgs,Ziv,Zgt,Ziw,Zhh,Zjd,Zhi,Zje,E30_1,E129_2,E130_3,Zjf,Zll,Zcf,Zen,Zcg,Zeo,E55,R55,List.length_replicate,List.length_set] at f)
    | ((with_reducible refine ZkG ?_); intro e; subst e; refine ZjA ?_)
    | ((with_reducible refine ZkF ?_); intro v e; (try rw[e]))
    | (with_reducible refine Zhm ?_)
    | (with_reducible exact im_none)
    | (with_reducible exact Zih)
    | ((with_reducible refine XZ ?_); (repeat (first | revert f | revert g | revert e | revert v)); exact Zfx e1 x1)
    | ((with_reducible refine XZ ?_); (repeat (first | revert f | revert g | revert e | revert v)); exact Zfx e2 x2)
    | ((with_reducible refine XZ ?_); (repeat (first | revert f | revert g | revert e | revert v)); exact Zfx e3 x3)
    | (with_reducible refine ZeJ ?_)
    | (with_reducible refine Zbz ?_)
    | (with_reducible refine ZaP ?_)
    | (with_reducible refine ZbA ?_)
    | (with_reducible refine Zco ?_)
    | (with_reducible refine ZeK ?_)
    | (with_reducible refine Zgf ?_)
    | (with_reducible refine Zgg ?_)
    | (with_reducible refine ZhR ?_)
    | ((with_reducible refine Yz ?_ ?_); · simp[-Int.ofNat_toNat,bV, *]; done)
    | ((with_reducible refine YA ?_ ?_); · simp[-Int.ofNat_toNat,bV, *]; done)
    | (refine Zcn rfl rgAD ?_)
    | (refine Zby rfl drAD (by kernel_rfl) ?_)
    | ((with_reducible refine Zam ?_ ?_); · simp[-Int.ofNat_toNat,bV, *]; done)
    | ((with_reducible refine Zan ?_ ?_); · simp[-Int.ofNat_toNat,bV, *]; done)
    | (refine ZhQ rfl rgAD ?_)
    | (refine Zge rfl drAD (by kernel_rfl) ?_)
    | (refine ZeL ?_ (by simp only[pq,reduceCtorEq]; rfl))
    | (refine ZeL ?_ (if_neg (by decide)))
    | (with_reducible refine Zem (by assumption) ?_)
    | (with_reducible refine Zem (of_eq_true (by assumption)) ?_)
    | (with_reducible refine Zj0 (by assumption) ?_)
    | (with_reducible refine ZcG (by assumption) ?_)
    | (with_reducible refine ZcG (of_eq_true (by assumption)) ?_)
    | (with_reducible refine Zii (by assumption) ?_)
    | (with_reducible refine Zjz ?_)
    | (with_reducible refine Zij ?_)
    | (with_reducible refine Zik ?_)
    | ((with_reducible refine Zmd ?_ ?_) <;> (intro f; (try replace f:=Classical.not_not.1 f); have g:=nrm f; try replace f:=eqI f))
    | ((with_reducible refine ZkE ?_ ?_) <;> (intro f; (try replace f:=Classical.not_not.1 f); have g:=nrm f; try replace f:=eqI f))
    | ((with_reducible refine Yz ?_ ?_); · simp[-Int.ofNat_toNat,bV, *]; omega)
    | ((with_reducible refine YA ?_ ?_); · simp[-Int.ofNat_toNat,bV, *]; omega)
    | ((with_reducible refine Zam ?_ ?_); · simp[-Int.ofNat_toNat,bV, *]; omega)
    | ((with_reducible refine Zan ?_ ?_); · simp[-Int.ofNat_toNat,bV, *]; omega)
    | ((with_reducible refine Zme ?_); intro e; (try rw[e]))
    | ((fail_if_success (have:v=true:=by assumption)); (fail_if_success (have:v=false:=by assumption)); (with_reducible refine ZjB v ?_ ?_) <;> (intro f; try (exfalso; simp_all; done)))
    | (intro _; simp[-Int.ofNat_toNat,ZaA,ZC, *]; done)
    | (intro _; simp only[pq,reduceCtorEq]; simp[-Int.ofNat_toNat,und,List.replicate,Nat.add_assoc,upd,ZhS,updB, *]; done))):P:=t R1 k1 ⟨rfl⟩ R2 k2 ⟨rfl⟩ R3 k3 ⟨rfl⟩
theorem ZpY {P:Prop}{R1 R2 R3:Prop}(k1:R1:=by exact trivial) (k2:R2:=by exact trivial) (k3:R3:=by exact trivial) (t:∀ X1:Prop,X1→ZaO X1 R1→∀ X2:Prop,X2→ZaO X2 R2→∀ X3:Prop,X3→ZaO X3 R3→P:=by
  intro X1 x1 e1 X2 x2 e2 X3 x3 e3;try simp only[upd,ZhS,updB,setB,List.foldl,List.set,und,List.replicate,List.cons_append,List.nil_append,reduceIte,Nat.lt_irrefl,Nat.reduceLT]
  repeat' (first
    | (with_reducible refine Zjy ?_)
    | (with_reducible refine Zjx (by assumption) ?_)
    | ((with_reducible refine ZjZ ?_); intro v f f f)
    | (with_reducible refine Zig (by assumption) ?_)
    | ((with_reducible refine ZkD ?_); intro f; try simp only[List.length_replicate,List.length_set,List.length_take,List.length_drop,List.length_append] at f)
    | ((with_reducible refine Zjw ?_); intro v f f; try simp only[Con.Q,kS,nf,nfs,Xf,E25,R25,Zgr,Ziu,E58,R58,E68,R68,Zjb,Zkv,Zjc,Zkw,Zgs,Ziv,Zgt,Ziw,Zhh,Zjd,Zhi,Zje,E30_1,E129_2,E130_3,Zjf,Zll,Zcf,Zen,Zcg,Zeo,E55,R55,List.length_replicate,List.length_set] at f)
    | ((with_reducible refine ZkG ?_); intro e; subst e; refine ZjA ?_)
    | ((with_reducible refine ZkF ?_); intro v e; (try rw[e]))
    | (with_reducible refine Zhm ?_)
    | (with_reducible exact im_none)
    | (with_reducible exact Zih)
    | ((with_reducible refine XZ ?_); (repeat (first | revert f | revert g | revert e | revert v)); exact Zfx e1 x1)
    | ((with_reducible refine XZ ?_); (repeat (first | revert f | revert g | revert e | revert v)); exact Zfx e2 x2)
    | ((with_reducible refine XZ ?_); (repeat (first | revert f | revert g | revert e | revert v)); exact Zfx e3 x3)
    | (with_reducible refine ZeJ ?_)
    | (with_reducible refine Zbz ?_)
    | (with_reducible refine ZaP ?_)
    | (with_reducible refine ZbA ?_)
    | (with_reducible refine Zco ?_)
    | (with_reducible refine ZeK ?_)
    | (with_reducible refine Zgf ?_)
    | (with_reducible refine Zgg ?_)
    | (with_reducible refine ZhR ?_)
    | ((with_reducible refine Yz ?_ ?_); · simp[-Int.ofNat_toNat,bV, *]; done)
    | ((with_reducible refine YA ?_ ?_); · simp[-Int.ofNat_toNat,bV, *]; done)
    | (refine Zcn rfl Zts ?_)
    | (refine Zby rfl Ztt (by kernel_rfl) ?_)
    | ((with_reducible refine Zam ?_ ?_); · simp[-Int.ofNat_toNat,bV, *]; done)
    | ((with_reducible refine Zan ?_ ?_); · simp[-Int.ofNat_toNat,bV, *]; done)
    | (refine ZhQ rfl Zts ?_)
    | (refine Zge rfl Ztt (by kernel_rfl) ?_)
    | (refine ZeL ?_ (by simp only[pq,reduceCtorEq]; rfl))
    | (refine ZeL ?_ (if_neg (by decide)))
    | (with_reducible refine Zem (by assumption) ?_)
    | (with_reducible refine Zem (of_eq_true (by assumption)) ?_)
    | (with_reducible refine Zj0 (by assumption) ?_)
    | (with_reducible refine ZcG (by assumption) ?_)
    | (with_reducible refine ZcG (of_eq_true (by assumption)) ?_)
    | (with_reducible refine Zii (by assumption) ?_)
    | (with_reducible refine Zjz ?_)
    | (with_reducible refine Zij ?_)
    | (with_reducible refine Zik ?_)
    | ((with_reducible refine Zmd ?_ ?_) <;> (intro f; (try replace f:=Classical.not_not.1 f); have g:=nrm f; try replace f:=eqI f))
    | ((with_reducible refine ZkE ?_ ?_) <;> (intro f; (try replace f:=Classical.not_not.1 f); have g:=nrm f; try replace f:=eqI f))
    | ((with_reducible refine Yz ?_ ?_); · simp[-Int.ofNat_toNat,bV, *]; omega)
    | ((with_reducible refine YA ?_ ?_); · simp[-Int.ofNat_toNat,bV, *]; omega)
    | ((with_reducible refine Zam ?_ ?_); · simp[-Int.ofNat_toNat,bV, *]; omega)
    | ((with_reducible refine Zan ?_ ?_); · simp[-Int.ofNat_toNat,bV, *]; omega)
    | ((with_reducible refine Zme ?_); intro e; (try rw[e]))
    | ((fail_if_success (have:v=true:=by assumption)); (fail_if_success (have:v=false:=by assumption)); (with_reducible refine ZjB v ?_ ?_) <;> (intro f; try (exfalso; simp_all; done)))
    | (intro _; simp[-Int.ofNat_toNat,ZaA,ZC, *]; done)
    | (intro _; simp only[pq,reduceCtorEq]; simp[-Int.ofNat_toNat,und,List.replicate,Nat.add_assoc,upd,ZhS,updB, *]; done))):P:=t R1 k1 ⟨rfl⟩ R2 k2 ⟨rfl⟩ R3 k3 ⟨rfl⟩
theorem auL {P:Prop}{R1 R2 R3:Prop}(k1:R1:=by exact trivial) (k2:R2:=by exact trivial) (k3:R3:=by exact trivial) (t:∀ X1:Prop,X1→ZaO X1 R1→∀ X2:Prop,X2→ZaO X2 R2→∀ X3:Prop,X3→ZaO X3 R3→P:=by
  intro X1 x1 e1 X2 x2 e2 X3 x3 e3;try simp only[upd,ZhS,updB,setB,List.foldl,List.set,und,List.replicate,List.cons_append,List.nil_append,reduceIte,Nat.lt_irrefl,Nat.reduceLT]
  repeat' (first
    | (with_reducible refine Zjy ?_)
    | (with_reducible refine Zjx (by assumption) ?_)
    | ((with_reducible refine ZjZ ?_); intro v f f f)
    | (with_reducible refine Zig (by assumption) ?_)
    | ((with_reducible refine ZkD ?_); intro f; try simp only[List.length_replicate,List.length_set,List.length_take,List.length_drop,List.length_append] at f)
    | ((with_reducible refine Zjw ?_); intro v f f; try simp only[Con.Q,kS,nf,nfs,Xf,E25,R25,Zgr,Ziu,E58,R58,E68,R68,Zjb,Zkv,Zjc,Zkw,Zgs,Ziv,Zgt,Ziw,Zhh,Zjd,Zhi,Zje,E30_1,E129_2,E130_3,Zjf,Zll,Zcf,Zen,Zcg,Zeo,E55,R55,List.length_replicate,List.length_set] at f)
    | ((with_reducible refine ZkG ?_); intro e; subst e; refine ZjA ?_)
    | ((with_reducible refine ZkF ?_); intro v e; (try rw[e]))
    | (with_reducible refine Zhm ?_)
    | (with_reducible exact im_none)
    | (with_reducible exact Zih)
    | ((with_reducible refine XZ ?_); (repeat (first | revert f | revert g | revert e | revert v)); exact Zfx e1 x1)
    | ((with_reducible refine XZ ?_); (repeat (first | revert f | revert g | revert e | revert v)); exact Zfx e2 x2)
    | ((with_reducible refine XZ ?_); (repeat (first | revert f | revert g | revert e | revert v)); exact Zfx e3 x3)
    | (with_reducible refine ZeJ ?_)
    | (with_reducible refine Zbz ?_)
    | (with_reducible refine ZaP ?_)
    | (with_reducible refine ZbA ?_)
    | (with_reducible refine Zco ?_)
    | (with_reducible refine ZeK ?_)
    | (with_reducible refine Zgf ?_)
    | (with_reducible refine Zgg ?_)
    | (with_reducible refine ZhR ?_)
    | ((with_reducible refine Yz ?_ ?_); · simp[-Int.ofNat_toNat,bV, *]; done)
    | ((with_reducible refine YA ?_ ?_); · simp[-Int.ofNat_toNat,bV, *]; done)
    | (refine Zcn rfl rgL ?_)
    | (refine Zby rfl drL (by kernel_rfl) ?_)
    | ((with_reducible refine Zam ?_ ?_); · simp[-Int.ofNat_toNat,bV, *]; done)
    | ((with_reducible refine Zan ?_ ?_); · simp[-Int.ofNat_toNat,bV, *]; done)
    | (refine ZhQ rfl rgL ?_)
    | (refine Zge rfl drL (by kernel_rfl) ?_)
    | (refine ZeL ?_ (by simp only[pq,reduceCtorEq]; rfl))
    | (refine ZeL ?_ (if_neg (by decide)))
    | (with_reducible refine Zem (by assumption) ?_)
    | (with_reducible refine Zem (of_eq_true (by assumption)) ?_)
    | (with_reducible refine Zj0 (by assumption) ?_)
    | (with_reducible refine ZcG (by assumption) ?_)
    | (with_reducible refine ZcG (of_eq_true (by assumption)) ?_)
    | (with_reducible refine Zii (by assumption) ?_)
    | (with_reducible refine Zjz ?_)
    | (with_reducible refine Zij ?_)
    | (with_reducible refine Zik ?_)
    | ((with_reducible refine Zmd ?_ ?_) <;> (intro f; (try replace f:=Classical.not_not.1 f); have g:=nrm f; try replace f:=eqI f))
    | ((with_reducible refine ZkE ?_ ?_) <;> (intro f; (try replace f:=Classical.not_not.1 f); have g:=nrm f; try replace f:=eqI f))
    | ((with_reducible refine Yz ?_ ?_); · simp[-Int.ofNat_toNat,bV, *]; omega)
    | ((with_reducible refine YA ?_ ?_); · simp[-Int.ofNat_toNat,bV, *]; omega)
    | ((with_reducible refine Zam ?_ ?_); · simp[-Int.ofNat_toNat,bV, *]; omega)
    | ((with_reducible refine Zan ?_ ?_); · simp[-Int.ofNat_toNat,bV, *]; omega)
    | ((with_reducible refine Zme ?_); intro e; (try rw[e]))
    | ((fail_if_success (have:v=true:=by assumption)); (fail_if_success (have:v=false:=by assumption)); (with_reducible refine ZjB v ?_ ?_) <;> (intro f; try (exfalso; simp_all; done)))
    | (intro _; simp[-Int.ofNat_toNat,ZaA,ZC, *]; done)
    | (intro _; simp only[pq,reduceCtorEq]; simp[-Int.ofNat_toNat,und,List.replicate,Nat.add_assoc,upd,ZhS,updB, *]; done))):P:=t R1 k1 ⟨rfl⟩ R2 k2 ⟨rfl⟩ R3 k3 ⟨rfl⟩
theorem auR {P:Prop}{R1 R2 R3:Prop}(k1:R1:=by exact trivial) (k2:R2:=by exact trivial) (k3:R3:=by exact trivial) (t:∀ X1:Prop,X1→ZaO X1 R1→∀ X2:Prop,X2→ZaO X2 R2→∀ X3:Prop,X3→ZaO X3 R3→P:=by
  intro X1 x1 e1 X2 x2 e2 X3 x3 e3;try simp only[upd,ZhS,updB,setB,List.foldl,List.set,und,List.replicate,List.cons_append,List.nil_append,reduceIte,Nat.lt_irrefl,Nat.reduceLT]
  repeat' (first
    | (with_reducible refine Zjy ?_)
    | (with_reducible refine Zjx (by assumption) ?_)
    | ((with_reducible refine ZjZ ?_); intro v f f f)
    | (with_reducible refine Zig (by assumption) ?_)
    | ((with_reducible refine ZkD ?_); intro f; try simp only[List.length_replicate,List.length_set,List.length_take,List.length_drop,List.length_append] at f)
    | ((with_reducible refine Zjw ?_); intro v f f; try simp only[Con.Q,kS,nf,nfs,Xf,E25,R25,Zgr,Ziu,E58,R58,E68,R68,Zjb,Zkv,Zjc,Zkw,Zgs,Ziv,Zgt,Ziw,Zhh,Zjd,Zhi,Zje,E30_1,E129_2,E130_3,Zjf,Zll,Zcf,Zen,Zcg,Zeo,E55,R55,List.length_replicate,List.length_set] at f)
    | ((with_reducible refine ZkG ?_); intro e; subst e; refine ZjA ?_)
    | ((with_reducible refine ZkF ?_); intro v e; (try rw[e]))
    | (with_reducible refine Zhm ?_)
    | (with_reducible exact im_none)
    | (with_reducible exact Zih)
    | ((with_reducible refine XZ ?_); (repeat (first | revert f | revert g | revert e | revert v)); exact Zfx e1 x1)
    | ((with_reducible refine XZ ?_); (repeat (first | revert f | revert g | revert e | revert v)); exact Zfx e2 x2)
    | ((with_reducible refine XZ ?_); (repeat (first | revert f | revert g | revert e | revert v)); exact Zfx e3 x3)
    | (with_reducible refine ZeJ ?_)
    | (with_reducible refine Zbz ?_)
    | (with_reducible refine ZaP ?_)
    | (with_reducible refine ZbA ?_)
    | (with_reducible refine Zco ?_)
    | (with_reducible refine ZeK ?_)
    | (with_reducible refine Zgf ?_)
    | (with_reducible refine Zgg ?_)
    | (with_reducible refine ZhR ?_)
    | ((with_reducible refine Yz ?_ ?_); · simp[-Int.ofNat_toNat,bV, *]; done)
    | ((with_reducible refine YA ?_ ?_); · simp[-Int.ofNat_toNat,bV, *]; done)
    | (refine Zcn rfl rgR ?_)
    | (refine Zby rfl drR (by kernel_rfl) ?_)
    | ((with_reducible refine Zam ?_ ?_); · simp[-Int.ofNat_toNat,bV, *]; done)
    | ((with_reducible refine Zan ?_ ?_); · simp[-Int.ofNat_toNat,bV, *]; done)
    | (refine ZhQ rfl rgR ?_)
    | (refine Zge rfl drR (by kernel_rfl) ?_)
    | (refine ZeL ?_ (by simp only[pq,reduceCtorEq]; rfl))
    | (refine ZeL ?_ (if_neg (by decide)))
    | (with_reducible refine Zem (by assumption) ?_)
    | (with_reducible refine Zem (of_eq_true (by assumption)) ?_)
    | (with_reducible refine Zj0 (by assumption) ?_)
    | (with_reducible refine ZcG (by assumption) ?_)
    | (with_reducible refine ZcG (of_eq_true (by assumption)) ?_)
    | (with_reducible refine Zii (by assumption) ?_)
    | (with_reducible refine Zjz ?_)
    | (with_reducible refine Zij ?_)
    | (with_reducible refine Zik ?_)
    | ((with_reducible refine Zmd ?_ ?_) <;> (intro f; (try replace f:=Classical.not_not.1 f); have g:=nrm f; try replace f:=eqI f))
    | ((with_reducible refine ZkE ?_ ?_) <;> (intro f; (try replace f:=Classical.not_not.1 f); have g:=nrm f; try replace f:=eqI f))
    | ((with_reducible refine Yz ?_ ?_); · simp[-Int.ofNat_toNat,bV, *]; omega)
    | ((with_reducible refine YA ?_ ?_); · simp[-Int.ofNat_toNat,bV, *]; omega)
    | ((with_reducible refine Zam ?_ ?_); · simp[-Int.ofNat_toNat,bV, *]; omega)
    | ((with_reducible refine Zan ?_ ?_); · simp[-Int.ofNat_toNat,bV, *]; omega)
    | ((with_reducible refine Zme ?_); intro e; (try rw[e]))
    | ((fail_if_success (have:v=true:=by assumption)); (fail_if_success (have:v=false:=by assumption)); (with_reducible refine ZjB v ?_ ?_) <;> (intro f; try (exfalso; simp_all; done)))
    | (intro _; simp[-Int.ofNat_toNat,ZaA,ZC, *]; done)
    | (intro _; simp only[pq,reduceCtorEq]; simp[-Int.ofNat_toNat,und,List.replicate,Nat.add_assoc,upd,ZhS,updB, *]; done))):P:=t R1 k1 ⟨rfl⟩ R2 k2 ⟨rfl⟩ R3 k3 ⟨rfl⟩
instance {a y}:Fc (Zh6 a=some y) (K65.Q a y):=⟨K65.q1⟩
instance {a y}:Fc (Zh7 a=some y) (K66.Q a y):=⟨K66.q1⟩
instance {a b y}:Fc (YL a b=some y) (K139.Q (a,b) y):=⟨K139.q2⟩
instance {a b y}:Fc (XE a b=some y) (K106.Q (a,b) y):=⟨K106.q2⟩
instance {a y}:Fc (Zdi a=some y) (K105.Q a y):=⟨K105.q1⟩
instance {a b y}:Fc (Zdj a b=some y) (K67.Q (a,b) y):=⟨K67.q2⟩
instance {a y}:Fc (Zg6 a=some y) (K41.Q a y):=⟨K41.q1⟩
instance {a y}:Fc (Zcp a=some y) (K24.Q a y):=⟨K24.q1⟩
instance {a y}:Fc (ZO a=some y) (G25 (E25 a)=some (R25 a y)):=⟨Zwz⟩
instance {a b y}:Fc (XO a b=some y) (K8.Q (a,b) y):=⟨K8.q2⟩
instance {a y}:Fc (YP a=some y) (K21.Q a y):=⟨K21.q1⟩
instance {a b y}:Fc (Xk a b=some y) (K23.Q (a,b) y):=⟨K23.q2⟩
instance {a y}:Fc (XR a=some y) (K26.Q a y):=⟨K26.q1⟩
instance {a b y}:Fc (Xa a b=some y) (K27.Q (a,b) y):=⟨K27.q2⟩
instance {a b c y}:Fc (YD a b c=some y) (K11.Q (a,b,c) y):=⟨K11.q3⟩
instance {a b y}:Fc (YJ a b=some y) (K29.Q (a,b) y):=⟨K29.q2⟩
instance {a b y}:Fc (XX a b=some y) (K16.Q (a,b) y):=⟨K16.q2⟩
instance { y}:Fc (Llaw21_sane=some y) (K5.Q () y):=⟨K5.q0⟩
instance {a b y}:Fc (Yy a b=some y) (K61.Q (a,b) y):=⟨K61.q2⟩
instance {a b y}:Fc (Xd a b=some y) (K104.Q (a,b) y):=⟨K104.q2⟩
instance {a b y}:Fc (Za8 a b=some y) (K62.Q (a,b) y):=⟨K62.q2⟩
instance {a b y}:Fc (Z5 a b=some y) (K63.Q (a,b) y):=⟨K63.q2⟩
instance {a b y}:Fc (Zae a b=some y) (K64.Q (a,b) y):=⟨K64.q2⟩
instance {a b y}:Fc (Yq a b=some y) (K40.Q (a,b) y):=⟨K40.q2⟩
instance {a b y}:Fc (Y9 a b=some y) (K39.Q (a,b) y):=⟨K39.q2⟩
instance {a y}:Fc (Zbh a=some y) (K22.Q a y):=⟨K22.q1⟩
instance {a y}:Fc (ZbK a=some y) (K9.Q a y):=⟨K9.q1⟩
instance {a y}:Fc (ZaG a=some y) (K71.Q a y):=⟨K71.q1⟩
instance {a y}:Fc (Zhl a=some y) (K140.Q a y):=⟨K140.q1⟩
instance {a b y}:Fc (Zfp a b=some y) (K107.Q (a,b) y):=⟨K107.q2⟩
instance {a y}:Fc (Zf4 a=some y) (K99.Q a y):=⟨K99.q1⟩
instance { y}:Fc (Lref03_Initial=some y) (K100.Q () y):=⟨K100.q0⟩
instance {a b y}:Fc (YS a b=some y) (K138.Q (a,b) y):=⟨K138.q2⟩
instance {a y}:Fc (ZbU a=some y) (K136.Q a y):=⟨K136.q1⟩
instance { y}:Fc (Lref03_constants=some y) (K137.Q () y):=⟨K137.q0⟩
instance {a b y}:Fc (Xv a b=some y) (G101 (Zgr (a,b))=some (Ziu (a,b) y)):=⟨ZqX⟩
instance {a y}:Fc (YZ a=some y) (G58 (E58 a)=some (R58 a y)):=⟨ZpX⟩
instance {a y}:Fc (Za2 a=some y) (K37.Q a y):=⟨K37.q1⟩
instance {a b y}:Fc (Z9 a b=some y) (K102.Q (a,b) y):=⟨K102.q2⟩
instance {a b y}:Fc (Ya a b=some y) (K103.Q (a,b) y):=⟨K103.q2⟩
instance {a b y}:Fc (ZW a b=some y) (K59.Q (a,b) y):=⟨K59.q2⟩
instance {a b y}:Fc (YG a b=some y) (K172.Q (a,b) y):=⟨K172.q2⟩
instance {a b y}:Fc (Yr a b=some y) (K60.Q (a,b) y):=⟨K60.q2⟩
instance {a y}:Fc (ZcN a=some y) (K173.Q a y):=⟨K173.q1⟩
instance {a b y}:Fc (XB a b=some y) (K175.Q (a,b) y):=⟨K175.q2⟩
instance {a b y}:Fc (Za9 a b=some y) (K189.Q (a,b) y):=⟨K189.q2⟩
instance {a y}:Fc (ZdA a=some y) (K174.Q a y):=⟨K174.q1⟩
instance {a b y}:Fc (X9 a b=some y) (K142.Q (a,b) y):=⟨K142.q2⟩
instance {a y}:Fc (X0 a=some y) (K141.Q a y):=⟨K141.q1⟩
instance {a y}:Fc (Zeq a=some y) (K108.Q a y):=⟨K108.q1⟩
instance {a b c y}:Fc (YE a b c=some y) (G68 (E68 (a,b,c))=some (R68 (a,b,c) y)):=⟨Ztq⟩
instance { y}:Fc (Lmade_Null=some y) (K109.Q () y):=⟨K109.q0⟩
instance {a b c y}:Fc (Zd8 a b c=some y) (K69.Q (a,b,c) y):=⟨K69.q3⟩
instance {a b y}:Fc (ZaL a b=some y) (K124.Q (a,b) y):=⟨K124.q2⟩
instance {a b y}:Fc (ZaM a b=some y) (K87.Q (a,b) y):=⟨K87.q2⟩
instance {a y}:Fc (Zbs a=some y) (K125.Q a y):=⟨K125.q1⟩
instance {a y}:Fc (XV a=some y) (K155.Q a y):=⟨K155.q1⟩
instance {a y}:Fc (Zbt a=some y) (K158.Q a y):=⟨K158.q1⟩
instance {a b c y}:Fc (Xc a b c=some y) (G181 (Zjb (a,b,c))=some (Zkv (a,b,c) y)):=⟨ZvJ⟩
instance {a b y}:Fc (ZeF a b=some y) (K182.Q (a,b) y):=⟨K182.q2⟩
instance {a b y}:Fc (ZeG a b=some y) (K159.Q (a,b) y):=⟨K159.q2⟩
instance {a y}:Fc (Za3 a=some y) (K121.Q a y):=⟨K121.q1⟩
instance {a b y}:Fc (Xb a b=some y) (K122.Q (a,b) y):=⟨K122.q2⟩
instance {a y}:Fc (Xe a=some y) (K89.Q a y):=⟨K89.q1⟩
instance {a b y}:Fc (Zbk a b=some y) (K70.Q (a,b) y):=⟨K70.q2⟩
instance {a y}:Fc (Xq a=some y) (K38.Q a y):=⟨K38.q1⟩
instance {a y}:Fc (X5 a=some y) (K20.Q a y):=⟨K20.q1⟩
instance {a b y}:Fc (XG a b=some y) (K131.Q (a,b) y):=⟨K131.q2⟩
instance {a b y}:Fc (Zgb a b=some y) (K154.Q (a,b) y):=⟨K154.q2⟩
instance {a b c y}:Fc (Zak a b c=some y) (G199 (Zjc (a,b,c))=some (Zkw (a,b,c) y)):=⟨ZvK⟩
instance {a b y}:Fc (Zf7 a b=some y) (K183.Q (a,b) y):=⟨K183.q2⟩
instance {a b c y}:Fc (Zgc a b c=some y) (K156.Q (a,b,c) y):=⟨K156.q3⟩
instance {a y}:Fc (ZcE a=some y) (K157.Q a y):=⟨K157.q1⟩
instance {a b c d y}:Fc (Zdr a b c d=some y) (K120.Q (a,b,c,d) y):=⟨K120.q4⟩
instance {a b y}:Fc (Zc6 a b=some y) (K83.Q (a,b) y):=⟨K83.q2⟩
instance {a y}:Fc (Zal a=some y) (K123.Q a y):=⟨K123.q1⟩
instance {a b y}:Fc (ZcX a b=some y) (K84.Q (a,b) y):=⟨K84.q2⟩
instance {a y}:Fc (Zb6 a=some y) (K85.Q a y):=⟨K85.q1⟩
instance {a b c d y}:Fc (Zfq a b c d=some y) (K72.Q (a,b,c,d) y):=⟨K72.q4⟩
instance {a y}:Fc (Zfj a=some y) (K110.Q a y):=⟨K110.q1⟩
instance {a y}:Fc (ZaD a=some y) (K150.Q a y):=⟨K150.q1⟩
instance {a b y}:Fc (Zfk a b=some y) (K176.Q (a,b) y):=⟨K176.q2⟩
instance {a y}:Fc (Zdn a=some y) (K143.Q a y):=⟨K143.q1⟩
instance {a y}:Fc (Zfl a=some y) (K111.Q a y):=⟨K111.q1⟩
instance {a y}:Fc (ZdO a=some y) (K73.Q a y):=⟨K73.q1⟩
instance {a y}:Fc (Ze1 a=some y) (K74.Q a y):=⟨K74.q1⟩
instance {a b c d y}:Fc (Zeh a b c d=some y) (K43.Q (a,b,c,d) y):=⟨K43.q4⟩
instance {a b y}:Fc (Y3 a b=some y) (G144 (Zgs (a,b))=some (Ziv (a,b) y)):=⟨ZqY⟩
instance {a y}:Fc (Zc0 a=some y) (K112.Q a y):=⟨K112.q1⟩
instance {a y}:Fc (ZdL a=some y) (K151.Q a y):=⟨K151.q1⟩
instance {a y}:Fc (XT a=some y) (K116.Q a y):=⟨K116.q1⟩
instance {a b y}:Fc (Zdo a b=some y) (K190.Q (a,b) y):=⟨K190.q2⟩
instance {a y}:Fc (Zdp a=some y) (K177.Q a y):=⟨K177.q1⟩
instance {a y}:Fc (Zfm a=some y) (K145.Q a y):=⟨K145.q1⟩
instance {a y}:Fc (ZcR a=some y) (K146.Q a y):=⟨K146.q1⟩
instance {a b y}:Fc (Zc1 a b=some y) (K147.Q (a,b) y):=⟨K147.q2⟩
instance {a b y}:Fc (ZcA a b=some y) (K148.Q (a,b) y):=⟨K148.q2⟩
instance {a y}:Fc (Zd9 a=some y) (K149.Q a y):=⟨K149.q1⟩
instance {a y}:Fc (Zea a=some y) (K113.Q a y):=⟨K113.q1⟩
instance {a b y}:Fc (X6 a b=some y) (G114 (Zgt (a,b))=some (Ziw (a,b) y)):=⟨ZqZ⟩
instance {a b c y}:Fc (Zeb a b c=some y) (K75.Q (a,b,c) y):=⟨K75.q3⟩
instance {a b y}:Fc (Zcq a b=some y) (K79.Q (a,b) y):=⟨K79.q2⟩
instance {a y}:Fc (ZaN a=some y) (K115.Q a y):=⟨K115.q1⟩
instance {a b c d y}:Fc (Zec a b c d=some y) (K76.Q (a,b,c,d) y):=⟨K76.q4⟩
instance {a b y}:Fc (Zf2 a b=some y) (K117.Q (a,b) y):=⟨K117.q2⟩
instance {a b y}:Fc (Zab a b=some y) (G178 (Zhh (a,b))=some (Zjd (a,b) y)):=⟨ZvL⟩
instance {a b c y}:Fc (ZcF a b c=some y) (K152.Q (a,b,c) y):=⟨K152.q3⟩
instance {a b c y}:Fc (Zau a b c=some y) (K153.Q (a,b,c) y):=⟨K153.q3⟩
instance {a b c d y}:Fc (Zei a b c d=some y) (K118.Q (a,b,c,d) y):=⟨K118.q4⟩
instance {a b c y}:Fc (Zej a b c=some y) (K77.Q (a,b,c) y):=⟨K77.q3⟩
instance {a b y}:Fc (ZcB a b=some y) (K78.Q (a,b) y):=⟨K78.q2⟩
instance {a b y}:Fc (Zat a b=some y) (K82.Q (a,b) y):=⟨K82.q2⟩
instance {a b y}:Fc (Zbu a b=some y) (G119 (Zhi (a,b))=some (Zje (a,b) y)):=⟨ZvM⟩
instance {a b c y}:Fc (Zga a b c=some y) (K80.Q (a,b,c) y):=⟨K80.q3⟩
instance {a y}:Fc (Zc2 a=some y) (K81.Q a y):=⟨K81.q1⟩
instance {a b c y}:Fc (Zb0 a b c=some y) (K44.Q (a,b,c) y):=⟨K44.q3⟩
instance {a b y}:Fc (Zfn a b=some y) (K86.Q (a,b) y):=⟨K86.q2⟩
instance {a b c y}:Fc (Zbm a b c=some y) (K46.Q (a,b,c) y):=⟨K46.q3⟩
instance {a b c d y}:Fc (Zb7 a b c d=some y) (K45.Q (a,b,c,d) y):=⟨K45.q4⟩
instance {a y}:Fc (ZhF a=some y) (K88.Q a y):=⟨K88.q1⟩
instance {a y}:Fc (Zed a=some y) (K47.Q a y):=⟨K47.q1⟩
instance {a y}:Fc (Zee a=some y) (K48.Q a y):=⟨K48.q1⟩
instance {a y}:Fc (Zef a=some y) (K49.Q a y):=⟨K49.q1⟩
instance {a y}:Fc (Zfo a=some y) (K31.Q a y):=⟨K31.q1⟩
instance {a b y}:Fc (Zfr a b=some y) (K30_1.Q (a,b) y):=⟨K30_1.q2⟩
instance {a b y}:Fc (Zek a b=some y) (K17.Q (a,b) y):=⟨K17.q2⟩
instance {a b y}:Fc (Zgd a b=some y) (K18.Q (a,b) y):=⟨K18.q2⟩
instance {a b y}:Fc (Xj a b=some y) (K90.Q (a,b) y):=⟨K90.q2⟩
instance {a y}:Fc (Xp a=some y) (K50.Q a y):=⟨K50.q1⟩
instance {a y}:Fc (Zep a=some y) (K57.Q a y):=⟨K57.q1⟩
instance {a b y}:Fc (ZeB a b=some y) (K92.Q (a,b) y):=⟨K92.q2⟩
instance {a y}:Fc (Zg4 a=some y) (K91.Q a y):=⟨K91.q1⟩
instance {a b y}:Fc (Zf3 a b=some y) (K51.Q (a,b) y):=⟨K51.q2⟩
instance {a y}:Fc (Zdm a=some y) (K32.Q a y):=⟨K32.q1⟩
instance {a y}:Fc (ZbJ a=some y) (K52.Q a y):=⟨K52.q1⟩
instance {a y}:Fc (Zh9 a=some y) (K33.Q a y):=⟨K33.q1⟩
instance {a y}:Fc (Zfi a=some y) (K34.Q a y):=⟨K34.q1⟩
instance {a y}:Fc (XN a=some y) (K160.Q a y):=⟨K160.q1⟩
instance {a b y}:Fc (YW a b=some y) (K126.Q (a,b) y):=⟨K126.q2⟩
instance {a y}:Fc (Z7 a=some y) (K93.Q a y):=⟨K93.q1⟩
instance {a y}:Fc (Zff a=some y) (K127.Q a y):=⟨K127.q1⟩
instance {a y}:Fc (Zfg a=some y) (K128.Q a y):=⟨K128.q1⟩
instance {a b y}:Fc (XF a b=some y) (K129_2.Q (a,b) y):=⟨K129_2.q2⟩
instance {a b c y}:Fc (XW a b c=some y) (K130_3.Q (a,b,c) y):=⟨K130_3.q3⟩
instance {a b c y}:Fc (Zaj a b c=some y) (K94.Q (a,b,c) y):=⟨K94.q3⟩
instance {a b y}:Fc (Zbf a b=some y) (K53.Q (a,b) y):=⟨K53.q2⟩
instance {a b y}:Fc (ZhA a b=some y) (K95.Q (a,b) y):=⟨K95.q2⟩
instance {a b y}:Fc (ZP a b=some y) (K161.Q (a,b) y):=⟨K161.q2⟩
instance {a b y}:Fc (Zfh a b=some y) (K133.Q (a,b) y):=⟨K133.q2⟩
instance {a b y}:Fc (ZdM a b=some y) (K132.Q (a,b) y):=⟨K132.q2⟩
instance {a b y}:Fc (Zh8 a b=some y) (K96.Q (a,b) y):=⟨K96.q2⟩
instance {a y}:Fc (Zbg a=some y) (G171 (Zjf a)=some (Zll a y)):=⟨ZvN⟩
instance {a y}:Fc (Zcx a=some y) (K135.Q a y):=⟨K135.q1⟩
instance {a b c y}:Fc (Zt a b c=some y) (G162_4 (Zcf (a,b,c))=some (Zen (a,b,c) y)):=⟨ZoF⟩
instance {a b c d y}:Fc (Yv a b c d=some y) (G134_5 (Zcg (a,b,c,d))=some (Zeo (a,b,c,d) y)):=⟨Ztr⟩
instance {a y}:Fc (Yi a=some y) (K97_6.Q a y):=⟨K97_6.q1⟩
instance {a b c d y}:Fc (ZbZ a b c d=some y) (K54.Q (a,b,c,d) y):=⟨K54.q4⟩
instance {a b c d y}:Fc (ZcD a b c d=some y) (K35.Q (a,b,c,d) y):=⟨K35.q4⟩
instance {a y}:Fc (Yo a=some y) (G55 (E55 a)=some (R55 a y)):=⟨ZwA⟩
instance {a y}:Fc (ZjU a=some y) (K98.Q a y):=⟨K98.q1⟩
instance {a y}:Fc (ZcQ a=some y) (K56.Q a y):=⟨K56.q1⟩
instance {a y}:Fc (Zbi a=some y) (K36.Q a y):=⟨K36.q1⟩
instance {a y}:Fc (ZdP a=some y) (K19.Q a y):=⟨K19.q1⟩
instance {a b y}:Fc (Zel a b=some y) (K6.Q (a,b) y):=⟨K6.q2⟩
instance {a b c y}:Fc (Yn a b c=some y) (K7.Q (a,b,c) y):=⟨K7.q3⟩
end Go.Proofs.YtcfpmbefhfbdjaaGreatDoor
