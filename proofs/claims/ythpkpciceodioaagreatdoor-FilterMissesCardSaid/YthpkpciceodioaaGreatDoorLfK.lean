import Derived.Test.YthpkpciceodioaaGreatDoorLcG3
import Derived.Test.YthpkpciceodioaaGreatDoorLcG1
import Derived.Test.YthpkpciceodioaaGreatDoorLcG1
import Derived.Test.YthpkpciceodioaaGreatDoorLcG3
import Derived.Test.YthpkpciceodioaaGreatDoorTt
namespace Go.Proofs.YthpkpciceodioaaGreatDoor
open Go.RowKit
open Go.Av
open Go.Lc
set_option maxRecDepth 100000
set_option linter.unusedSimpArgs false
set_option linter.unusedVariables false
attribute [simp] tt1 tt2 tt3 tt4 tt5 tt6 tt7 tt8 tt9 tt10 tt11 tt12 tt13 tt14 tt15 tt16 tt17 tt18 tt19 tt21 tt22 tt23 tt24 tt25 tt26 tt27 tt28 tt29 tt30 tt31 tt32 tt33 tt34 tt35 tt37 tt38 tt39 tt40 tt41 tt42 tt44 tt45 tt46 tt47 tt48 tt49 tt50 tt51 tt52 tt53 tt54 tt55 tt56 tt57 tt58 tt59 tt60 tt61 tt62 tt63 tt64 tt65 tt66 tt67 tt68 tt69 tt70 tt72 tt73 tt74 tt75 tt77 tt78 tt79 tt80 tt81 tt82 tt83 tt85 tt86 tt107 tt109 tt119 tt120 tt121 tt122 tt123 tt124 tt126 tt127 tt140 tt151 tt152 tt171 tt172 tt182 tt183 tt189 tt191 tt193 tt199 tt203 tt204 tt207 tt222 tt238 tt246 tt256 tt265 tt266 tt274 tt278 tt280 tt285 tt289 tt292 tt297 tt298 tt299 tt301 tt302 tt308 tt328 tt329 tt330 tt331 tt332 tt334 tt335 tt336 tt337 tt338 tt339 tt340 tt341 ti1 ti2 ti3 ti4 ti5 ti6 ti7 ti8 ti9 ti10 ti11 ti12 ti13 ti14 ti15 ti16 ti17 ti18 ti19 ti21 ti22 ti23 ti24 ti25 ti26 ti27 ti28 ti29 ti30 ti31 ti32 ti33 ti34 ti35 ti37 ti38 ti39 ti40 ti41 ti42 ti44 ti45 ti46 ti47 ti48 ti49 ti50 ti51 ti52 ti53 ti54 ti55 ti56 ti57 ti58 ti59 ti60 ti61 ti62 ti63 ti64 ti65 ti66 ti67 ti68 ti69 ti70 ti72 ti73 ti74 ti75 ti77 ti78 ti79 ti80 ti81 ti82 ti83 ti85 ti86 ti107 ti109 ti119 ti120 ti121 ti122 ti123 ti124 ti126 ti127 ti140 ti151 ti152 ti171 ti172 ti182 ti183 ti189 ti191 ti193 ti199 ti203 ti204 ti207 ti222 ti238 ti246 ti256 ti265 ti266 ti274 ti278 ti280 ti285 ti289 ti292 ti297 ti298 ti299 ti301 ti302 ti308 ti328 ti329 ti330 ti331 ti332 ti334 ti335 ti336 ti337 ti338 ti339 ti340 ti341
@[simp] theorem Zzp {n:Nat}{k:IntKind}{l:List (Arr n)}:l.any ((fun l=>l.any Cell.isSl) ∘ arC k)=false:=by simp[arC,ints]
@[simp↓] theorem Zy8 {k:IntKind}(m:List Int) (n:Nat):(∀ l,l∈List.drop n (Zf k m)→l.length=1)=True:=eq_true fun l h=>intsR_all l (List.mem_of_mem_drop h)
@[simp↓] theorem Zy9 {k:IntKind}(m:List Int) (n:Nat):(∀ l,l∈List.take n (Zf k m)→l.length=1)=True:=eq_true fun l h=>intsR_all l (List.mem_of_mem_take h)
@[simp↓] theorem Zza {k:IntKind}(m:List Int):(∀ l,l∈(Zf k m).tail→l.length=1)=True:=eq_true fun l h=>intsR_all l (List.mem_of_mem_tail h)
@[simp↓] theorem Zyy {k:IntKind}(m:List Int) (n:Nat):(∀ l,l∈List.take n (Zf k m).tail→l.length=1)=True:=eq_true fun l h=>intsR_all l (List.mem_of_mem_tail (List.mem_of_mem_take h))
@[simp↓] theorem Zyz {k:IntKind}(m:List Int) (n:Nat):(∀ l,l∈List.drop n (Zf k m).tail→l.length=1)=True:=eq_true fun l h=>intsR_all l (List.mem_of_mem_tail (List.mem_of_mem_drop h))
@[simp] theorem arC_z8:arC .u64 (zA 8)=arC .u64 (zA 4)++arC .u64 (zA 4):=rfl
@[simp] theorem arC_z12:arC .u64 (zA 12)=arC .u64 (zA 4)++(arC .u64 (zA 4)++arC .u64 (zA 4)):=rfl
theorem az64:arC .u8 (zA 64)=arC .u8 (zA 32)++arC .u8 (zA 32):=rfl
theorem bz4:List.map Zc.cell (zr 4 Zc.nil)=[.slice .nil [],.slice .nil [],.slice .nil [],.slice .nil []]:=rfl
theorem mzD (p:Arr 8):Zz (arC .u64 (zA 4)) 0 (List.drop 4 (Zf .u64 p.l)).flatten=arC .u64 ((zA 4).over (p.l.drop 4)):=by
  have h8:=p.hl
  have e:List.take (min (p.l.drop 4).length 4) (Zf .u64 (p.l.drop 4))=List.drop 4 (Zf .u64 p.l):=by
    have e1:Zf .u64 (p.l.drop 4)=List.drop 4 (Zf .u64 p.l):=by unfold Zf; rw[List.map_drop]
    rw[e1,List.take_of_length_le (by unfold Zf; rw[List.length_drop,List.length_drop,List.length_map]; omega)]
  rw[← e];exact ZnQ
theorem mzT (p:Arr 8):Zz (arC .u64 (zA 4)) 0 (List.take 4 (Zf .u64 p.l)).flatten=arC .u64 ((zA 4).over (p.l.take 4)):=by
  have h8:=p.hl
  have e:List.take (min (p.l.take 4).length 4) (Zf .u64 (p.l.take 4))=List.take 4 (Zf .u64 p.l):=by
    have e1:Zf .u64 (p.l.take 4)=List.take 4 (Zf .u64 p.l):=by unfold Zf; rw[List.map_take]
    rw[e1,List.take_of_length_le (by unfold Zf; rw[List.length_take,List.length_take,List.length_map]; omega)]
  rw[← e];exact ZnQ
theorem Ztm (a:Nat):(1+a≤a+1)=True:=eq_true (by omega)
@[simp] def eapi_OutPoint (x:Tapi_OutPoint):List Cell:=(arC .u8 x.1)++((.v (.int .u32 x.2)) :: [])
instance:EnC eapi_OutPoint 33:=enC
instance:EnP eapi_OutPoint:=enP
@[simp] def YQ (x:(List Int)):List Cell:=[.slice .no (Zf .u8 x)]
instance:EnC YQ 1:=enC
@[simp] def ZaW (x:Tapi_Input):List Cell:=(arC .u8 x.1.1)++((.v (.int .u32 x.1.2)) :: ((.v (.int .u32 x.2.1)) :: ((.slice .no (List.map YQ x.2.2)) :: [])))
instance:EnC ZaW 35:=enC
@[simp] def YY (x:Tapi_Output):List Cell:=[.v (.int .i64 x.1),.slice .no (Zf .u8 x.2)]
instance:EnC YY 2:=enC
@[simp] def ZR (x:Tapi_Tx):List Cell:=[.v (.int .u32 x.1),.slice .no (List.map ZaW x.2.1),.slice .no (List.map YY x.2.2.1),.v (.int .u32 x.2.2.2)]
instance:EnC ZR 4:=enC
@[simp] def Yo (x:Tapi_Block):List Cell:=(.v (.int .u32 x.1.1)) :: ((arC .u8 x.1.2.1)++((arC .u8 x.1.2.2.1)++((.v (.int .u32 x.1.2.2.2.1)) :: ((.v (.int .u32 x.1.2.2.2.2.1)) :: ((.v (.int .u32 x.1.2.2.2.2.2)) :: ((.slice .no (List.map ZR x.2)) :: []))))))
instance:EnC Yo 69:=enC
@[simp] def eapi_Header (x:Tapi_Header):List Cell:=(.v (.int .u32 x.1)) :: ((arC .u8 x.2.1)++((arC .u8 x.2.2.1)++((.v (.int .u32 x.2.2.2.1)) :: ((.v (.int .u32 x.2.2.2.2.1)) :: ((.v (.int .u32 x.2.2.2.2.2)) :: [])))))
instance:EnC eapi_Header 68:=enC
instance:EnP eapi_Header:=enP
@[simp] def ZcC (x:Tapi_Bits):List Cell:=[.slice .no (Zf .u8 x.1),.v (.int .i64 x.2)]
instance:EnC ZcC 2:=enC
@[simp] def ZcD (x:Tapi_Filter):List Cell:=[.v (.int .i64 x.1),.slice .no (Zf .u8 x.2)]
instance:EnC ZcD 2:=enC
@[simp] def Zs (x:Tapi_Coin):List Cell:=(arC .u8 x.1.1)++((.v (.int .u32 x.1.2)) :: ((.v (.int .i64 x.2.1.1)) :: ((.slice .no (Zf .u8 x.2.1.2)) :: ((.v (.int .i64 x.2.2.1)) :: ((.v (.bool x.2.2.2)) :: [])))))
instance:EnC Zs 37:=enC
@[simp] def eapi_Checkpoint (x:Tapi_Checkpoint):List Cell:=(.v (.int .i64 x.1)) :: (arC .u8 x.2)
instance:EnC eapi_Checkpoint 33:=enC
instance:EnP eapi_Checkpoint:=enP
@[simp] def YB (x:Tapi_Params):List Cell:=(.v (.int .u32 x.1.1)) :: ((arC .u8 x.1.2.1)++((arC .u8 x.1.2.2.1)++((.v (.int .u32 x.1.2.2.2.1)) :: ((.v (.int .u32 x.1.2.2.2.2.1)) :: ((.v (.int .u32 x.1.2.2.2.2.2)) :: ((arC .u64 x.2.1)++((.v (.int .i64 x.2.2.1)) :: ((.v (.int .u32 x.2.2.2.1)) :: ((.v (.int .u32 x.2.2.2.2.1)) :: ((.v (.int .u32 x.2.2.2.2.2.1)) :: ((.slice .no (List.map eapi_Checkpoint x.2.2.2.2.2.2.1)) :: ((.v (.int .i64 x.2.2.2.2.2.2.2.1)) :: ((.v (.int .i64 x.2.2.2.2.2.2.2.2.1)) :: ((.v (.int .i64 x.2.2.2.2.2.2.2.2.2)) :: []))))))))))))))
instance:EnC YB 80:=enC
@[simp] def YH (x:Tapi_Context):List Cell:=(.v (.int .i64 x.1)) :: ((arC .u8 x.2.1)++((.v (.int .u32 x.2.2.1)) :: ((.v (.int .u32 x.2.2.2.1)) :: ((.slice .no (Zf .u32 x.2.2.2.2)) :: []))))
instance:EnC YH 36:=enC
@[simp] def Zjo (x:(List (Arr 32))):List Cell:=[.slice .no (List.map (arC .u8) x)]
instance:EnC Zjo 1:=enC
@[simp] def Xj (x:Tapi_Ledger):List Cell:=(.v (.int .i64 x.1)) :: ((arC .u8 x.2.1)++((.slice .no (List.map Zs x.2.2)) :: []))
instance:EnC Xj 34:=enC
@[simp] def eapi_Env (x:Tapi_Env):List Cell:=(arC .u8 x.1)++((.v (.int .i64 x.2.1)) :: ((.v (.int .i64 x.2.2)) :: []))
instance:EnC eapi_Env 34:=enC
instance:EnP eapi_Env:=enP
@[simp] def ZeP (x:(List Tapi_Coin)):List Cell:=[.slice .no (List.map Zs x)]
instance:EnC ZeP 1:=enC
theorem nfs:(∀ x:Tapi_OutPoint,eapi_OutPoint x=(arC .u8 x.1)++((.v (.int .u32 x.2)) :: []))∧(∀ x:(List Int),YQ x=[.slice .no (Zf .u8 x)])∧(∀ x:Tapi_Input,ZaW x=(arC .u8 x.1.1)++((.v (.int .u32 x.1.2)) :: ((.v (.int .u32 x.2.1)) :: ((.slice .no (List.map YQ x.2.2)) :: []))))∧(∀ x:Tapi_Output,YY x=[.v (.int .i64 x.1),.slice .no (Zf .u8 x.2)])∧(∀ x:Tapi_Tx,ZR x=[.v (.int .u32 x.1),.slice .no (List.map ZaW x.2.1),.slice .no (List.map YY x.2.2.1),.v (.int .u32 x.2.2.2)])∧(∀ x:Tapi_Block,Yo x=(.v (.int .u32 x.1.1)) :: ((arC .u8 x.1.2.1)++((arC .u8 x.1.2.2.1)++((.v (.int .u32 x.1.2.2.2.1)) :: ((.v (.int .u32 x.1.2.2.2.2.1)) :: ((.v (.int .u32 x.1.2.2.2.2.2)) :: ((.slice .no (List.map ZR x.2)) :: [])))))))∧(∀ x:Tapi_Header,eapi_Header x=(.v (.int .u32 x.1)) :: ((arC .u8 x.2.1)++((arC .u8 x.2.2.1)++((.v (.int .u32 x.2.2.2.1)) :: ((.v (.int .u32 x.2.2.2.2.1)) :: ((.v (.int .u32 x.2.2.2.2.2)) :: []))))))∧(∀ x:Tapi_Bits,ZcC x=[.slice .no (Zf .u8 x.1),.v (.int .i64 x.2)])∧(∀ x:Tapi_Filter,ZcD x=[.v (.int .i64 x.1),.slice .no (Zf .u8 x.2)])∧(∀ x:Tapi_Coin,Zs x=(arC .u8 x.1.1)++((.v (.int .u32 x.1.2)) :: ((.v (.int .i64 x.2.1.1)) :: ((.slice .no (Zf .u8 x.2.1.2)) :: ((.v (.int .i64 x.2.2.1)) :: ((.v (.bool x.2.2.2)) :: []))))))∧(∀ x:Tapi_Checkpoint,eapi_Checkpoint x=(.v (.int .i64 x.1)) :: (arC .u8 x.2))∧(∀ x:Tapi_Params,YB x=(.v (.int .u32 x.1.1)) :: ((arC .u8 x.1.2.1)++((arC .u8 x.1.2.2.1)++((.v (.int .u32 x.1.2.2.2.1)) :: ((.v (.int .u32 x.1.2.2.2.2.1)) :: ((.v (.int .u32 x.1.2.2.2.2.2)) :: ((arC .u64 x.2.1)++((.v (.int .i64 x.2.2.1)) :: ((.v (.int .u32 x.2.2.2.1)) :: ((.v (.int .u32 x.2.2.2.2.1)) :: ((.v (.int .u32 x.2.2.2.2.2.1)) :: ((.slice .no (List.map eapi_Checkpoint x.2.2.2.2.2.2.1)) :: ((.v (.int .i64 x.2.2.2.2.2.2.2.1)) :: ((.v (.int .i64 x.2.2.2.2.2.2.2.2.1)) :: ((.v (.int .i64 x.2.2.2.2.2.2.2.2.2)) :: [])))))))))))))))∧(∀ x:Tapi_Context,YH x=(.v (.int .i64 x.1)) :: ((arC .u8 x.2.1)++((.v (.int .u32 x.2.2.1)) :: ((.v (.int .u32 x.2.2.2.1)) :: ((.slice .no (Zf .u32 x.2.2.2.2)) :: [])))))∧(∀ x:(List (Arr 32)),Zjo x=[.slice .no (List.map (arC .u8) x)])∧(∀ x:Tapi_Ledger,Xj x=(.v (.int .i64 x.1)) :: ((arC .u8 x.2.1)++((.slice .no (List.map Zs x.2.2)) :: [])))∧(∀ x:Tapi_Env,eapi_Env x=(arC .u8 x.1)++((.v (.int .i64 x.2.1)) :: ((.v (.int .i64 x.2.2)) :: [])))∧(∀ x:(List Tapi_Coin),ZeP x=[.slice .no (List.map Zs x)]):=⟨fun _=>rfl,fun _=>rfl,fun _=>rfl,fun _=>rfl,fun _=>rfl,fun _=>rfl,fun _=>rfl,fun _=>rfl,fun _=>rfl,fun _=>rfl,fun _=>rfl,fun _=>rfl,fun _=>rfl,fun _=>rfl,fun _=>rfl,fun _=>rfl,fun _=>rfl⟩
@[simp] def ZkU (x:ByteArray×Bool):List Cell:=([.v (.string x.1)])++([.v (.bool x.2)])
theorem eM_Str_B_he:∀ a b:ByteArray,kEq ([.v (.string a)]) ([.v (.string b)])=decide (a=b):=by
  rintro a b
  rw[Bool.eq_iff_iff];simp[kEq,kEq1]
@[simp] theorem Zyf {k0:ByteArray}{l:List (ByteArray×Bool)}:ZhC 1 ([.v (.string k0)]) (List.map ZkU l)=Option.map (fun v:Bool=>([.v (.bool v)]:List Cell)) (Zb7 k0 l):=Zqz (eK:=(fun k:ByteArray=>([.v (.string k)]:List Cell))) (eV:=(fun v:Bool=>([.v (.bool v)]:List Cell))) (fun k=>by simp) eM_Str_B_he k0 l
@[simp] theorem Zyg {k0:ByteArray}{v0:Bool}{l:List (ByteArray×Bool)}:ZiH 1 ([.v (.string k0)]) ([.v (.bool v0)]) (List.map ZkU l)=List.map ZkU (ZeY k0 v0 l):=ZqA (eK:=(fun k:ByteArray=>([.v (.string k)]:List Cell))) (eV:=(fun v:Bool=>([.v (.bool v)]:List Cell))) (fun k=>by simp) eM_Str_B_he k0 v0 l
@[simp] theorem ZyA (o:Option Bool):(Option.map (fun v:Bool=>([.v (.bool v)]:List Cell)) o).getD ([.v (.bool false)])=[.v (.bool (o.getD false))]:=by cases o <;> rfl
@[simp] theorem Zxp {k0:ByteArray}{v0:Bool}:ZiH 1 ([.v (.string k0)]) ([.v (.bool v0)]) []=List.map ZkU (ZeY k0 v0 []):=rfl
theorem bN {α β:Type}{o:Option α}{f:α→Option β}{y:β}{P P':α→Prop}(h:o.bind f=some y) (k:∀ {x},o=some x→P x) (n:∀ x,P x→P' x:=by intro x h; try simp only[kS,nf,nfs] at h; exact h):∃ x,P' x∧f x=some y :=
  let ⟨x,h1,h2⟩:=bs h
  ⟨x,n x (k h1),h2⟩
theorem Zdq {P R:Prop}(k:R) (h:∀ X:Prop,ZaR X R→Imp X P:=by
  intro X e
  repeat (first
    | (with_reducible refine Ze6 ?_)
    | (with_reducible refine ZbF ?_)
    | (with_reducible refine ZaS ?_)
    | (with_reducible refine ZbG ?_)
    | (with_reducible refine Zcx ?_)
    | (with_reducible refine Ze7 ?_)
    | (with_reducible refine ZgN ?_)
    | (with_reducible refine ZgO ?_)
    | (with_reducible refine Zit ?_)
    | (with_reducible refine YF ?_ ?_; · simp[-Int.ofNat_toNat,bV, *]; done)
    | (with_reducible refine YG ?_ ?_; · simp[-Int.ofNat_toNat,bV, *]; done)
    | (refine Zcw rfl (by first | (simp[-Int.ofNat_toNat,Nat.add_assoc,-Int.natCast_tdiv_eq_ediv, *] <;> rfl) | fail) ?_)
    | (refine ZbE rfl (by simp[-Int.ofNat_toNat,Nat.add_assoc,-Int.natCast_tdiv_eq_ediv, *]; first | exact⟨rfl,rfl⟩ | rfl) (by kernel_rfl) ?_)
    | (with_reducible refine Zay ?_ ?_; · simp[-Int.ofNat_toNat,bV, *]; done)
    | (with_reducible refine Zaz ?_ ?_; · simp[-Int.ofNat_toNat,bV, *]; done)
    | (refine Zis rfl (by first | (simp[-Int.ofNat_toNat,Nat.add_assoc,-Int.natCast_tdiv_eq_ediv, *] <;> rfl) | fail) ?_)
    | (refine ZgM rfl (by simp[-Int.ofNat_toNat,Nat.add_assoc,-Int.natCast_tdiv_eq_ediv, *]; first | exact⟨rfl,rfl⟩ | rfl) (by kernel_rfl) ?_)
    | (refine Ze8 ?_ (by simp only[pq,reduceCtorEq]; rfl)))
  exact Imp.of e):P:=h R ⟨rfl⟩ k
theorem goR {P R:Prop}(k:R) (h:∀ X:Prop,ZaR X R→Imp X P:=by
  intro X e
  repeat (first
    | (with_reducible refine Ze6 ?_)
    | (with_reducible refine ZbF ?_)
    | (with_reducible refine ZaS ?_)
    | (with_reducible refine ZbG ?_)
    | (with_reducible refine Zcx ?_)
    | (with_reducible refine Ze7 ?_)
    | (with_reducible refine ZgN ?_)
    | (with_reducible refine ZgO ?_)
    | (with_reducible refine Zit ?_)
    | (with_reducible refine YF ?_ ?_; · simp[-Int.ofNat_toNat,bV, *]; done)
    | (with_reducible refine YG ?_ ?_; · simp[-Int.ofNat_toNat,bV, *]; done)
    | (refine Zcw rfl (by first | (simp[-Int.ofNat_toNat,List.range,List.range.loop, *] <;> rfl) | fail) ?_)
    | (refine ZbE rfl (by simp[-Int.ofNat_toNat,List.range,List.range.loop, *]; first | exact⟨rfl,rfl⟩ | rfl) (by kernel_rfl) ?_)
    | (with_reducible refine Zay ?_ ?_; · simp[-Int.ofNat_toNat,bV, *]; done)
    | (with_reducible refine Zaz ?_ ?_; · simp[-Int.ofNat_toNat,bV, *]; done)
    | (refine Zis rfl (by first | (simp[-Int.ofNat_toNat,List.range,List.range.loop, *] <;> rfl) | fail) ?_)
    | (refine ZgM rfl (by simp[-Int.ofNat_toNat,List.range,List.range.loop, *]; first | exact⟨rfl,rfl⟩ | rfl) (by kernel_rfl) ?_)
    | (refine Ze8 ?_ (by simp only[pq,reduceCtorEq]; rfl)))
  exact Imp.of e):P:=h R ⟨rfl⟩ k
def G:Glob:=fun g=>if g=0 then some (arC .u32 shaInitial) else if g=1 then some (arC .u32 shaK) else none
@[simp] theorem G_at0:G 0=some (arC .u32 shaInitial):=rfl
@[simp] theorem G_at1:G 1=some (arC .u32 shaK):=rfl
noncomputable abbrev K9:=cn a0 (r1 eB) (fun(_:Unit)=>Lconst_true)
def E42 (x:(List Int)):List PV:=[.one (.slice .no (Zf .u8 x))]
theorem E42i:∀ a b,E42 a=E42 b→a=b:=by
  rintro a0 b0 h
  simpa[E42,and_assoc] using h
def R42 (x:(List Int)) (y:(List Int)):PV×List (List Cell):=(.one (.own 1 (Zf .u8 y)),[])
noncomputable def G42:=Zab E42 fun x=>(ZZ x).map (R42 x)
theorem Zyh {a0:(List Int)}{y:(List Int)}(h:ZZ a0=some y):G42 (E42 a0)=some (R42 a0 y):=YO E42i h
noncomputable abbrev K79:=cn (a1 (eG eapi_OutPoint)) (r1 eB) ZkE
noncomputable abbrev K43:=cn (a1 (eG ZR)) (r1 eB) Zc4
noncomputable abbrev K97:=cn (a2 (eL .u8) (eL .u8)) (r1 (oL .u8)) (u2 YD)
noncomputable abbrev K119:=cn (a2 (eI .u64) (eI .i64)) (r1 (oL .u8)) (u2 Xe)
noncomputable abbrev K80:=cn (a2 (eL .u8) (eI .u32)) (r1 (oL .u8)) (u2 Z7)
noncomputable abbrev K81:=cn (a2 (eL .u8) (eA .u8)) (r1 (oL .u8)) (u2 Xk)
noncomputable abbrev K44:=cn (a1 (eG eapi_OutPoint)) (r1 (oL .u8)) ZeM
noncomputable abbrev K14:=cn (a1 (eG Yo)) (r1 (oS 1 YQ)) Zaw
noncomputable abbrev K98:=cn (a2 (eL .u8) (eI .u16)) (r1 (oL .u8)) (u2 Zbe)
noncomputable abbrev K99:=cn (a2 (eL .u8) (eI .u64)) (r1 (oL .u8)) (u2 Zao)
noncomputable abbrev K56:=cn (a2 (eL .u8) (eI .u64)) (r1 (oL .u8)) (u2 YM)
noncomputable abbrev K67:=cn (a1 (eG eapi_Header)) (r1 (oL .u8)) Xp
noncomputable abbrev K55:=cn (a2 (eL .u8) (eL .u8)) (r1 (oL .u8)) (u2 XD)
noncomputable abbrev K108:=cn (a2 (eG ZR) eB) (r1 (oL .u8)) (u2 Ze0)
noncomputable abbrev K107:=cn (a1 (eG ZR)) (r1 eB) ZhF
noncomputable abbrev K68:Con (Tapi_Tx×Bool) ((List Int)×Int):=cn (a2 (eG ZR) eB) (r2 (eL .u8) (eI .i64)) (u2 ZgC)
noncomputable abbrev K35:Con Tapi_Block ((List Int)×Int):=cn (a1 (eG Yo)) (r2 (eL .u8) (eI .i64)) ZdC
noncomputable abbrev K69:=cn (a1 (eL .u8)) (r1 (eI .u64)) ZbN
noncomputable abbrev K36:=cn (a1 (eA .u8)) (r1 (eA .u64)) ZhJ
noncomputable abbrev K153:=cn (a1 (eS YQ)) (r1 (oL .u8)) ZiO
noncomputable abbrev K154:=cn (a1 (eI .u64)) (r1 (oL .u8)) ZiP
noncomputable abbrev K227:=cn (a2 (eI .u32) (eI .i64)) (r1 (eI .u32)) (u2 YP)
noncomputable abbrev K198:=cn (a2 (eI .u32) (eI .i64)) (r1 (eI .u32)) (u2 XH)
noncomputable abbrev K197:=cn (a1 (eA .u8)) (r1 (eA .u32)) Zdy
noncomputable abbrev K155:=cn (a2 (eA .u32) (eA .u8)) (r1 (eA .u32)) (u2 Zdz)
noncomputable abbrev K105:=cn (a1 (eL .u8)) (r1 (eA .u8)) ZhH
noncomputable abbrev K65:=cn (a1 (eL .u8)) (r1 (eA .u8)) ZfK
noncomputable abbrev K37:=cn (a1 (eG eapi_Header)) (r1 (eA .u8)) Zcz
noncomputable abbrev K199:=cn (a1 (eI .u64)) (r1 eB) XV
noncomputable abbrev K156:=cn (a2 (eI .u64) (eI .u64)) (r1 eB) (u2 Y1)
noncomputable abbrev K109:=cn (a1 (eL .u64)) (r1 eB) Z9
noncomputable abbrev K157:=cn (a1 (eG ZcC)) (r1 eB) Zcy
noncomputable abbrev K158:Con Tapi_Bits Tapi_Bits:=cn (a1 (eG ZcC)) (fun _ y=>(.io ([.own 1 (Zf .u8 y.1),.v (.int .i64 y.2)]),[])) ZfL
def E159_1 (x:Tapi_Bits×Bool):List PV:=[.io ([.own 1 (Zf .u8 x.1.1),.v (.int .i64 x.1.2)]),.one (.v (.bool x.2))]
instance:Yg E159_1:=⟨by intro a b h; simpa[E159_1,Prod.ext_iff,and_assoc] using h⟩
noncomputable abbrev K159_1:Con (Tapi_Bits×Bool) Tapi_Bits:=cn E159_1 (fun _ y=>(.tup [],[[.own 1 (Zf .u8 y.1),.v (.int .i64 y.2)]])) (u2 XI)
def E160_2 (x:Tapi_Bits×Int×Int):List PV:=[.io ([.own 1 (Zf .u8 x.1.1),.v (.int .i64 x.1.2)]),.one (.v (.int .u64 x.2.1)),.one (.v (.int .i64 x.2.2))]
instance:Yg E160_2:=⟨by intro a b h; simpa[E160_2,Prod.ext_iff,and_assoc] using h⟩
noncomputable abbrev K160_2:Con (Tapi_Bits×Int×Int) Tapi_Bits:=cn E160_2 (fun _ y=>(.tup [],[[.own 1 (Zf .u8 y.1),.v (.int .i64 y.2)]])) (u3 X7)
noncomputable abbrev K110:Con (Tapi_Bits×Int×Int) (Tapi_Bits×Int):=cn (a3 (eG ZcC) (eI .u64) (eI .i64)) (r2 (eG ZcC) (eI .i64)) (u3 Zat)
noncomputable abbrev K70:Con ((List Int)×Int) (Tapi_Filter×Int):=cn (a2 (eL .u64) (eI .i64)) (r2 (eG ZcD) (eI .i64)) (u2 Zbl)
noncomputable abbrev K161:Con (Int×Int) (Int×Int):=cn (a2 (eI .u64) (eI .u64)) (r2 (eI .u64) (eI .u64)) (u2 XJ)
noncomputable abbrev K111:=cn (a2 (eI .u64) (eI .u64)) (r1 (eI .u64)) (u2 Zic)
noncomputable abbrev K200:=cn (a2 (eI .u64) (eI .i64)) (r1 (eI .u64)) (u2 ZY)
noncomputable abbrev K163:=cn (a2 (eA .u64) (eI .i64)) (r1 (eA .u64)) (u2 ZfM)
noncomputable abbrev K162:=cn (a2 (eA .u64) (eI .u64)) (r1 (eA .u64)) (u2 Zd4)
noncomputable abbrev K112:=cn (a2 (eA .u64) (eL .u8)) (r1 (eI .u64)) (u2 ZiQ)
def E209 (x:Int):List PV:=[.one (.v (.int .u32 x))]
def R209 (x:Int) (y:Int):PV×List (List Cell):=(.one (.v (.int .i64 y)),[])
noncomputable def G209:=Zab E209 fun x=>(ZkF x).map (R209 x)
def ZjW (x:Int):List PV:=[.one (.v (.int .u64 x))]
theorem E210i:∀ a b,ZjW a=ZjW b→a=b:=by
  rintro a0 b0 h
  simpa[ZjW,and_assoc] using h
def Zlj (x:Int) (y:Int):PV×List (List Cell):=(.one (.v (.int .i64 y)),[])
noncomputable def G210:=Zab ZjW fun x=>(Xc x).map (Zlj x)
theorem Zxf {a0:Int}{y:Int}(h:Xc a0=some y):G210 (ZjW a0)=some (Zlj a0 y):=YO E210i h
noncomputable abbrev K165:=cn (a1 (eI .u64)) (r1 (eI .i64)) ZcJ
def Zcn (x:(List Int)×Int×Int):List PV:=[.rio 1 (Zf .u64 x.1),.one (.v (.int .i64 x.2.1)),.one (.v (.int .i64 x.2.2))]
theorem E201_3i:∀ a b,Zcn a=Zcn b→a=b:=by
  rintro⟨a0,a1,a2⟩ ⟨b0,b1,b2⟩ h
  simpa[Zcn,and_assoc] using h
def ZeK (x:(List Int)×Int×Int) (y:(List Int)):PV×List (List Cell):=(.tup [],[(Zf .u64 y).flatten])
noncomputable def G201_3:=Zab Zcn fun x=>(Zv x.1 x.2.1 x.2.2).map (ZeK x)
theorem ZpN {a0:(List Int)}{a1:Int}{a2:Int}{y:(List Int)}(h:Zv a0 a1 a2=some y):G201_3 (Zcn (a0,a1,a2))=some (ZeK (a0,a1,a2) y):=YO E201_3i h
def Zco (x:(List Int)×Int×Int×Int):List PV:=[.rio 1 (Zf .u64 x.1),.one (.v (.int .i64 x.2.1)),.one (.v (.int .i64 x.2.2.1)),.one (.v (.int .i64 x.2.2.2))]
theorem E164_4i:∀ a b,Zco a=Zco b→a=b:=by
  rintro⟨a0,a1,a2,a3⟩ ⟨b0,b1,b2,b3⟩ h
  simpa[Zco,and_assoc] using h
def ZeL (x:(List Int)×Int×Int×Int) (y:(List Int)):PV×List (List Cell):=(.tup [],[(Zf .u64 y).flatten])
noncomputable def G164_4:=Zab Zco fun x=>(YA x.1 x.2.1 x.2.2.1 x.2.2.2).map (ZeL x)
theorem ZuI {a0:(List Int)}{a1:Int}{a2:Int}{a3:Int}{y:(List Int)}(h:YA a0 a1 a2 a3=some y):G164_4 (Zco (a0,a1,a2,a3))=some (ZeL (a0,a1,a2,a3) y):=YO E164_4i h
noncomputable def Zo4 (n:Nat):=Zab Zco fun x=>(Lslices_pdqsortOrdered_of_uint64w_n n x.1 x.2.1 x.2.2.1 x.2.2.2).map (ZeL x)
noncomputable abbrev K113_5:=cn (a1 (oR .u64)) (rio (lR .u64)) Yp
noncomputable abbrev K71:=cn (a4 (eA .u64) (eS YQ) (eI .i64) (eI .u64)) (r1 (oL .u64)) (u4 ZaP)
noncomputable abbrev K38:Con ((Arr 2)×(List (List Int))×Int×Int) (Tapi_Filter×Int):=cn (a4 (eA .u64) (eS YQ) (eI .i64) (eI .u64)) (r2 (eG ZcD) (eI .i64)) (u4 ZcR)
noncomputable abbrev K11:Con Tapi_Block (Tapi_Filter×Int):=cn (a1 (eG Yo)) (r2 (eG ZcD) (eI .i64)) Zby
noncomputable abbrev K171:=cn (a2 (eG ZcC) (eI .i64)) (r1 eB) (u2 Zgk)
noncomputable abbrev K172:=cn (a3 (eG ZcC) (eI .i64) (eI .i64)) (r1 (eI .u64)) (u3 Zda)
noncomputable abbrev K120:Con (Tapi_Bits×Int×Int) (Int×Int×Int):=cn (a3 (eG ZcC) (eI .i64) (eI .i64)) (r3 (eI .u64) (eI .i64) (eI .i64)) (u3 ZcL)
noncomputable abbrev K121:Con (Tapi_Bits×Int×Int) (Int×Int×Int):=cn (a3 (eG ZcC) (eI .i64) (eI .i64)) (r3 (eI .u64) (eI .i64) (eI .i64)) (u3 Zih)
noncomputable abbrev K84:Con (Tapi_Filter×Int) ((List Int)×Int):=cn (a2 (eG ZcD) (eI .i64)) (r2 (eL .u64) (eI .i64)) (u2 ZcM)
def E122_6 (x:(List Int)):List PV:=[.one (.own 1 (Zf .u64 x))]
instance:Yg E122_6:=⟨by intro a b h; simpa[E122_6,Prod.ext_iff,and_assoc] using h⟩
noncomputable abbrev K122_6:=cn E122_6 (r1 (oL .u64)) Ya
noncomputable abbrev K85:Con ((Arr 2)×(List (List Int))×Int×Int) ((List Int)×Int):=cn (a4 (eA .u64) (eS YQ) (eI .i64) (eI .u64)) (r2 (eL .u64) (eI .i64)) (u4 Zb4)
noncomputable abbrev K47:Con ((Arr 2)×Tapi_Filter×(List (List Int))×Int×Int) (Bool×Int):=cn (a5 (eA .u64) (eG ZcD) (eS YQ) (eI .i64) (eI .u64)) (r2 eB (eI .i64)) (u5 ZcS)
noncomputable abbrev K18:Con (Tapi_Filter×(Arr 32)×(List (List Int))) (Bool×Int):=cn (a3 (eG ZcD) (eA .u8) (eS YQ)) (r2 eB (eI .i64)) (u3 XX)
noncomputable abbrev K24:=cn (a1 (eI .u8)) (r1 (oL .u8)) Xd
noncomputable abbrev K212:=cn (a1 (eL .u8)) (r1 (eS YQ)) Zh0
noncomputable abbrev K175:Con (Tapi_Coin×Int) (Tapi_Tx×Int):=cn (a2 (eG Zs) (eI .u8)) (fun _ y=>(.tup [.agg ([.v (.int .u32 y.1.1),.own 35 (List.map ZaW y.1.2.1),.own 2 (List.map YY y.1.2.2.1),.v (.int .u32 y.1.2.2.2)]),.one (.v (.int .i64 y.2))],[])) (u2 ZfT)
noncomputable abbrev K146:=cn (a1 (eI .u64)) (r1 (oL .u8)) ZgD
noncomputable abbrev K147:=cn a0 (r1 (eA .u32)) (fun(_:Unit)=>Lref03_Initial)
noncomputable abbrev K195:=cn (a2 (eI .u32) (eI .i64)) (r1 (eI .u32)) (u2 YT)
noncomputable abbrev K193:=cn (a1 (eA .u8)) (r1 (eA .u32)) ZbZ
noncomputable abbrev K194:=cn a0 (r1 (eA .u32)) (fun(_:Unit)=>Lref03_constants)
def Zg0 (x:(Arr 8)×(Arr 64)):List PV:=[.agg (arC .u32 x.1),.agg (arC .u8 x.2)]
theorem E148i:∀ a b,Zg0 a=Zg0 b→a=b:=by
  rintro⟨a0,a1⟩ ⟨b0,b1⟩ h
  simpa[Zg0,and_assoc] using h
def Zja (x:(Arr 8)×(Arr 64)) (y:(Arr 8)):PV×List (List Cell):=(.agg (arC .u32 y),[])
noncomputable def G148:=Zab Zg0 fun x=>(Xv x.1 x.2).map (Zja x)
theorem Zsd {a0:(Arr 8)}{a1:(Arr 64)}{y:(Arr 8)}(h:Xv a0 a1=some y):G148 (Zg0 (a0,a1))=some (Zja (a0,a1) y):=YO E148i h
def E95 (x:(List Int)):List PV:=[.one (.slice .no (Zf .u8 x))]
theorem E95i:∀ a b,E95 a=E95 b→a=b:=by
  rintro a0 b0 h
  simpa[E95,and_assoc] using h
def R95 (x:(List Int)) (y:(Arr 32)):PV×List (List Cell):=(.agg (arC .u8 y),[])
noncomputable def G95:=Zab E95 fun x=>(YI x).map (R95 x)
theorem Zra {a0:(List Int)}{y:(Arr 32)}(h:YI a0=some y):G95 (E95 a0)=some (R95 a0 y):=YO E95i h
noncomputable abbrev K51:=cn (a1 (eL .u8)) (r1 (eA .u8)) XQ
noncomputable abbrev K82:=cn (a2 (eL .u8) (eL .u8)) (r1 (oL .u8)) (u2 Ye)
noncomputable abbrev K96:=cn (a2 (eI .u64) (eI .i64)) (r1 (oL .u8)) (u2 Yf)
noncomputable abbrev K53:=cn (a2 (eL .u8) (eI .u32)) (r1 (oL .u8)) (u2 Z2)
noncomputable abbrev K54:=cn (a2 (eL .u8) (eA .u8)) (r1 (oL .u8)) (u2 Yw)
noncomputable abbrev K23:=cn (a1 (eG eapi_OutPoint)) (r1 (oL .u8)) Zc1
noncomputable abbrev K61:=cn (a2 (eL .u8) (eI .u64)) (r1 (oL .u8)) (u2 YN)
noncomputable abbrev K60:=cn (a2 (eL .u8) (eL .u8)) (r1 (oL .u8)) (u2 XE)
noncomputable abbrev K211:=cn (a2 (eL .u8) (eI .u64)) (r1 (oL .u8)) (u2 Zbf)
noncomputable abbrev K166:=cn (a1 (eG YY)) (r1 (oL .u8)) ZdP
noncomputable abbrev K114:=cn (a2 (eG ZR) eB) (r1 (oL .u8)) (u2 Zai)
noncomputable abbrev K72:=cn (a1 (eG ZR)) (r1 eB) Zac
noncomputable abbrev K176:=cn (a1 (eG ZR)) (r1 (eA .u8)) ZeN
def Zg1 (x:Tapi_Params×Tapi_Ledger×Int):List PV:=[.agg ((.v (.int .u32 x.1.1.1)) :: ((arC .u8 x.1.1.2.1)++((arC .u8 x.1.1.2.2.1)++((.v (.int .u32 x.1.1.2.2.2.1)) :: ((.v (.int .u32 x.1.1.2.2.2.2.1)) :: ((.v (.int .u32 x.1.1.2.2.2.2.2)) :: ((arC .u64 x.1.2.1)++((.v (.int .i64 x.1.2.2.1)) :: ((.v (.int .u32 x.1.2.2.2.1)) :: ((.v (.int .u32 x.1.2.2.2.2.1)) :: ((.v (.int .u32 x.1.2.2.2.2.2.1)) :: ((.slice .no (List.map eapi_Checkpoint x.1.2.2.2.2.2.2.1)) :: ((.v (.int .i64 x.1.2.2.2.2.2.2.2.1)) :: ((.v (.int .i64 x.1.2.2.2.2.2.2.2.2.1)) :: ((.v (.int .i64 x.1.2.2.2.2.2.2.2.2.2)) :: []))))))))))))))),.agg ((.v (.int .i64 x.2.1.1)) :: ((arC .u8 x.2.1.2.1)++((.slice .no (List.map Zs x.2.1.2.2)) :: []))),.one (.v (.int .u8 x.2.2))]
theorem E125i:∀ a b,Zg1 a=Zg1 b→a=b:=by
  rintro⟨⟨⟨a0_0_0,a0_0_1,a0_0_2,a0_0_3,a0_0_4,a0_0_5⟩,a0_1,a0_2,a0_3,a0_4,a0_5,a0_6,a0_7,a0_8,a0_9⟩,⟨a1_0,a1_1,a1_2⟩,a2⟩ ⟨⟨⟨b0_0_0,b0_0_1,b0_0_2,b0_0_3,b0_0_4,b0_0_5⟩,b0_1,b0_2,b0_3,b0_4,b0_5,b0_6,b0_7,b0_8,b0_9⟩,⟨b1_0,b1_1,b1_2⟩,b2⟩ h
  simpa[Zg1,and_assoc] using h
def Zjb (x:Tapi_Params×Tapi_Ledger×Int) (y:(List Tapi_Tx)×Int):PV×List (List Cell):=(.tup [.one (.own 4 (List.map ZR y.1)),.one (.v (.int .i64 y.2))],[])
noncomputable def G125:=Zab Zg1 fun x=>(YK x.1 x.2.1 x.2.2).map (Zjb x)
theorem Zse {a0:Tapi_Params}{a1:Tapi_Ledger}{a2:Int}{y:(List Tapi_Tx)×Int}(h:YK a0 a1 a2=some y):G125 (Zg1 (a0,a1,a2))=some (Zjb (a0,a1,a2) y):=YO E125i h
noncomputable abbrev K177:Con Unit Tapi_OutPoint:=cn a0 (r1 (eG eapi_OutPoint)) (fun(_:Unit)=>Lmade_Null)
noncomputable abbrev K126:Con (Int×Int×(List Int)) Tapi_Tx:=cn (a3 (eI .i64) (eI .i64) (eL .u8)) (fun _ y=>(.agg ([.v (.int .u32 y.1),.own 35 (List.map ZaW y.2.1),.own 2 (List.map YY y.2.2.1),.v (.int .u32 y.2.2.2)]),[])) (u3 Zew)
noncomputable abbrev K191:=cn (a2 (eA .u64) (eI .i64)) (r1 eB) (u2 XW)
noncomputable abbrev K143:=cn (a2 (eA .u64) (eI .i64)) (r1 (eA .u64)) (u2 Xw)
noncomputable abbrev K192:=cn (a1 (eA .u64)) (r1 eB) Zae
noncomputable abbrev K222:=cn (a1 (eI .u64)) (r1 (eA .u64)) Y9
noncomputable abbrev K225:=cn (a1 (eA .u64)) (r1 (eI .i64)) Zak
def ZjX (x:Int×Int×Int):List PV:=[.one (.v (.int .u64 x.1)),.one (.v (.int .u64 x.2.1)),.one (.v (.int .u64 x.2.2))]
theorem E237i:∀ a b,ZjX a=ZjX b→a=b:=by
  rintro⟨a0,a1,a2⟩ ⟨b0,b1,b2⟩ h
  simpa[ZjX,and_assoc] using h
def Zlk (x:Int×Int×Int) (y:Int×Int):PV×List (List Cell):=(.tup [.one (.v (.int .u64 y.1)),.one (.v (.int .u64 y.2))],[])
noncomputable def G237:=Zab ZjX fun x=>(YE x.1 x.2.1 x.2.2).map (Zlk x)
theorem Zxg {a0:Int}{a1:Int}{a2:Int}{y:Int×Int}(h:YE a0 a1 a2=some y):G237 (ZjX (a0,a1,a2))=some (Zlk (a0,a1,a2) y):=YO E237i h
noncomputable abbrev K238:Con ((Arr 4)×(Arr 4)) ((Arr 4)×Bool):=cn (a2 (eA .u64) (eA .u64)) (r2 (eA .u64) eB) (u2 Zcu)
noncomputable abbrev K226:=cn (a2 (eA .u64) (eI .i64)) (r1 (eA .u64)) (u2 Zcv)
noncomputable abbrev K188:Con Int ((Arr 4)×Int):=cn (a1 (eI .u32)) (r2 (eA .u64) (eI .i64)) Xf
noncomputable abbrev K189:=cn (a2 (eA .u64) (eA .u64)) (r1 (eI .i64)) (u2 YJ)
noncomputable abbrev K145:=cn (a1 (eG YB)) (r1 eB) Xg
noncomputable abbrev K127:=cn (a2 (eG YB) (eI .i64)) (r1 (eI .i64)) (u2 Zbo)
noncomputable abbrev K52:=cn (a1 (eG eapi_Header)) (r1 (oL .u8)) Xq
noncomputable abbrev K22:=cn (a1 (eG eapi_Header)) (r1 (eA .u8)) YU
noncomputable abbrev K221:Con ((Arr 4)×(Arr 4)) ((Arr 4)×(Arr 4)):=cn (a2 (eA .u64) (eA .u64)) (r2 (eA .u64) (eA .u64)) (u2 ZgK)
def ZjY (x:Int×Int×Int):List PV:=[.one (.v (.int .u64 x.1)),.one (.v (.int .u64 x.2.1)),.one (.v (.int .u64 x.2.2))]
theorem E249i:∀ a b,ZjY a=ZjY b→a=b:=by
  rintro⟨a0,a1,a2⟩ ⟨b0,b1,b2⟩ h
  simpa[ZjY,and_assoc] using h
def Zll (x:Int×Int×Int) (y:Int×Int):PV×List (List Cell):=(.tup [.one (.v (.int .u64 y.1)),.one (.v (.int .u64 y.2))],[])
noncomputable def G249:=Zab ZjY fun x=>(Zav x.1 x.2.1 x.2.2).map (Zll x)
theorem Zxh {a0:Int}{a1:Int}{a2:Int}{y:Int×Int}(h:Zav a0 a1 a2=some y):G249 (ZjY (a0,a1,a2))=some (Zll (a0,a1,a2) y):=YO E249i h
noncomputable abbrev K239:Con ((Arr 4)×(Arr 4)) ((Arr 4)×Bool):=cn (a2 (eA .u64) (eA .u64)) (r2 (eA .u64) eB) (u2 ZgG)
noncomputable abbrev K223:Con ((Arr 4)×(Arr 4)×(Arr 4)) ((Arr 4)×(Arr 4)×Bool):=cn (a3 (eA .u64) (eA .u64) (eA .u64)) (r3 (eA .u64) (eA .u64) eB) (u3 ZgL)
noncomputable abbrev K224:=cn (a1 (eA .u64)) (r1 (eI .u32)) ZcT
noncomputable abbrev K187:Con (Tapi_Params×Int×Int×Int) (Int×Int):=cn (a4 (eG YB) (eI .u32) (eI .u32) (eI .u32)) (r2 (eI .u32) (eI .i64)) (u4 ZdI)
noncomputable abbrev K139:Con (Tapi_Params×Tapi_Context) (Int×Int):=cn (a2 (eG YB) (eG YH)) (r2 (eI .u32) (eI .i64)) (u2 Zdl)
noncomputable abbrev K190:=cn (a1 (eA .u8)) (r1 (eA .u64)) YV
noncomputable abbrev K140:=cn (a2 (eA .u8) (eI .u32)) (r1 eB) (u2 Zdc)
noncomputable abbrev K141:=cn (a1 (eL .u32)) (r1 (eI .u32)) Zcb
noncomputable abbrev K128:Con (Tapi_Params×Tapi_Context×(Arr 32)×Int) Tapi_Header:=cn (a4 (eG YB) (eG YH) (eA .u8) (eI .u32)) (r1 (eG eapi_Header)) (u4 ZfU)
noncomputable abbrev K178:=cn (a1 (eG ZR)) (r1 (eA .u8)) ZfN
noncomputable abbrev K45:=cn (a1 (eS YQ)) (r1 (oL .u8)) ZaI
noncomputable abbrev K233:=cn (a2 (eA .u8) (eA .u8)) (r1 (eA .u8)) (u2 ZfO)
noncomputable abbrev K213:=cn (a1 (eS (arC .u8))) (r1 (oS 1 Zjo)) ZdE
noncomputable abbrev K179:=cn (a1 (eS (arC .u8))) (r1 (eA .u8)) ZfP
noncomputable abbrev K129:=cn (a1 (eS ZR)) (r1 (eA .u8)) Zd6
noncomputable abbrev K130:=cn (a1 (eI .u8)) (r1 (eI .u32)) Zfw
noncomputable abbrev K88:Con (Tapi_Params×Tapi_Ledger×Tapi_Context×Int) Tapi_Block:=cn (a4 (eG YB) (eG Xj) (eG YH) (eI .u8)) (fun _ y=>(.agg ((.v (.int .u32 y.1.1)) :: ((arC .u8 y.1.2.1)++((arC .u8 y.1.2.2.1)++((.v (.int .u32 y.1.2.2.2.1)) :: ((.v (.int .u32 y.1.2.2.2.2.1)) :: ((.v (.int .u32 y.1.2.2.2.2.2)) :: ((.own 4 (List.map ZR y.2)) :: []))))))),[])) (u4 ZeF)
def Zg2 (x:Tapi_OutPoint×Tapi_OutPoint):List PV:=[.agg ((arC .u8 x.1.1)++((.v (.int .u32 x.1.2)) :: [])),.agg ((arC .u8 x.2.1)++((.v (.int .u32 x.2.2)) :: []))]
theorem E214i:∀ a b,Zg2 a=Zg2 b→a=b:=by
  rintro⟨⟨a0_0,a0_1⟩,⟨a1_0,a1_1⟩⟩ ⟨⟨b0_0,b0_1⟩,⟨b1_0,b1_1⟩⟩ h
  simpa[Zg2,and_assoc] using h
def Zjc (x:Tapi_OutPoint×Tapi_OutPoint) (y:Int):PV×List (List Cell):=(.one (.v (.int .i64 y)),[])
noncomputable def G214:=Zab Zg2 fun x=>(Y5 x.1 x.2).map (Zjc x)
theorem Zsf {a0:Tapi_OutPoint}{a1:Tapi_OutPoint}{y:Int}(h:Y5 a0 a1=some y):G214 (Zg2 (a0,a1))=some (Zjc (a0,a1) y):=YO E214i h
noncomputable abbrev K180:=cn (a1 (eG Xj)) (r1 eB) Zdf
noncomputable abbrev K115:Con (Tapi_Tx×Bool) ((List Int)×Int):=cn (a2 (eG ZR) eB) (r2 (eL .u8) (eI .i64)) (u2 ZdF)
noncomputable abbrev K73:=cn (a1 (eG Yo)) (r1 (oL .u8)) ZdG
noncomputable abbrev K39:=cn (a1 (eG Yo)) (r1 eB) ZfQ
noncomputable abbrev K83:=cn (a1 (eG eapi_OutPoint)) (r1 eB) Zd3
noncomputable abbrev K46:=cn (a1 (eG ZR)) (r1 eB) X5
noncomputable abbrev K215:=cn (a1 (eG ZR)) (r1 (eI .i64)) Zc5
noncomputable abbrev K216:=cn (a2 (eS (arC .u8)) (eA .u8)) (r1 (eI .i64)) (u2 Zdg)
noncomputable abbrev K217:=cn (a2 (eG Yo) (eS (arC .u8))) (r1 eB) (u2 ZcO)
noncomputable abbrev K218:=cn (a1 (eG Yo)) (r1 eB) Zex
noncomputable abbrev K181:=cn (a1 (eG Yo)) (r1 (eI .i64)) Zey
def Zg3 (x:Tapi_Tx×Int):List PV:=[.agg ([.v (.int .u32 x.1.1),.slice .no (List.map ZaW x.1.2.1),.slice .no (List.map YY x.1.2.2.1),.v (.int .u32 x.1.2.2.2)]),.one (.v (.int .i64 x.2))]
theorem E182i:∀ a b,Zg3 a=Zg3 b→a=b:=by
  rintro⟨⟨a0_0,a0_1,a0_2,a0_3⟩,a1⟩ ⟨⟨b0_0,b0_1,b0_2,b0_3⟩,b1⟩ h
  simpa[Zg3,and_assoc] using h
def Zjd (x:Tapi_Tx×Int) (y:Bool):PV×List (List Cell):=(.one (.v (.bool y)),[])
noncomputable def G182:=Zab Zg3 fun x=>(Zaf x.1 x.2).map (Zjd x)
theorem Zsg {a0:Tapi_Tx}{a1:Int}{y:Bool}(h:Zaf a0 a1=some y):G182 (Zg3 (a0,a1))=some (Zjd (a0,a1) y):=YO E182i h
noncomputable abbrev K131:=cn (a3 (eG YB) (eG Xj) (eG Yo)) (r1 (eI .i64)) (u3 Zez)
noncomputable abbrev K135:=cn (a2 (eS Zs) (eG eapi_OutPoint)) (r1 (eI .i64)) (u2 ZcA)
noncomputable abbrev K183:Con Tapi_Coin Tapi_Coin:=cn (a1 (eG Zs)) (fun _ y=>(.agg ((arC .u8 y.1.1)++((.v (.int .u32 y.1.2)) :: ((.v (.int .i64 y.2.1.1)) :: ((.own 1 (Zf .u8 y.2.1.2)) :: ((.v (.int .i64 y.2.2.1)) :: ((.v (.bool y.2.2.2)) :: [])))))),[])) ZaO
noncomputable abbrev K132:Con (Tapi_Params×(List Tapi_Coin)×Tapi_Tx×Int) ((List Tapi_Coin)×Int):=cn (a4 (eG YB) (eS Zs) (eG ZR) (eI .i64)) (r2 (eS Zs) (eI .i64)) (u4 ZeA)
noncomputable abbrev K184:Con (Tapi_Tx×(List Tapi_Coin)) (Int×Int):=cn (a2 (eG ZR) (eS Zs)) (r2 (eI .i64) (eI .i64)) (u2 ZgB)
def ZhV (x:ByteArray×(List Int)):List PV:=[.one (.v (.string x.1)),.one (.slice .no (Zf .u8 x.2))]
theorem E234i:∀ a b,ZhV a=ZhV b→a=b:=by
  rintro⟨a0,a1⟩ ⟨b0,b1⟩ h
  simpa[ZhV,and_assoc] using h
def ZjZ (x:ByteArray×(List Int)) (y:(Arr 32)):PV×List (List Cell):=(.agg (arC .u8 y),[])
noncomputable def G234:=Zab ZhV fun x=>(Zal x.1 x.2).map (ZjZ x)
theorem Zxi {a0:ByteArray}{a1:(List Int)}{y:(Arr 32)}(h:Zal a0 a1=some y):G234 (ZhV (a0,a1))=some (ZjZ (a0,a1) y):=YO E234i h
noncomputable abbrev K219:Con (Tapi_Tx×Int×Tapi_Output) ((Arr 32)×Int):=cn (a3 (eG ZR) (eI .i64) (eG YY)) (r2 (eA .u8) (eI .i64)) (u3 ZcU)
noncomputable abbrev K220:=cn (a3 (eL .u8) (eS YQ) (eG eapi_Env)) (r1 (eI .i64)) (u3 ZaF)
noncomputable abbrev K185:=cn (a4 (eG ZR) (eI .i64) (eG Zs) (eI .i64)) (r1 (eI .i64)) (u4 ZeG)
noncomputable abbrev K133:Con (Tapi_Tx×(List Tapi_Coin)×Int) (Int×Int):=cn (a3 (eG ZR) (eS Zs) (eI .i64)) (r2 (eI .i64) (eI .i64)) (u3 ZeH)
noncomputable abbrev K134:=cn (a2 (eS Zs) (eI .i64)) (r1 (eS Zs)) (u2 ZcP)
noncomputable abbrev K138:=cn (a2 (eG ZR) (eI .i64)) (r1 (oS 37 Zs)) (u2 ZaE)
def ZhW (x:(List Tapi_Coin)×Tapi_Coin):List PV:=[.one (.slice .no (List.map Zs x.1)),.agg ((arC .u8 x.2.1.1)++((.v (.int .u32 x.2.1.2)) :: ((.v (.int .i64 x.2.2.1.1)) :: ((.slice .no (Zf .u8 x.2.2.1.2)) :: ((.v (.int .i64 x.2.2.2.1)) :: ((.v (.bool x.2.2.2.2)) :: []))))))]
theorem E186i:∀ a b,ZhW a=ZhW b→a=b:=by
  rintro⟨a0,⟨⟨a1_0_0,a1_0_1⟩,⟨a1_1_0,a1_1_1⟩,a1_2,a1_3⟩⟩ ⟨b0,⟨⟨b1_0_0,b1_0_1⟩,⟨b1_1_0,b1_1_1⟩,b1_2,b1_3⟩⟩ h
  simpa[ZhW,and_assoc] using h
def Zj0 (x:(List Tapi_Coin)×Tapi_Coin) (y:(List Tapi_Coin)):PV×List (List Cell):=(.one (.slice .no (List.map Zs y)),[])
noncomputable def G186:=Zab ZhW fun x=>(Zbx x.1 x.2).map (Zj0 x)
theorem Zxj {a0:(List Tapi_Coin)}{a1:Tapi_Coin}{y:(List Tapi_Coin)}(h:Zbx a0 a1=some y):G186 (ZhW (a0,a1))=some (Zj0 (a0,a1) y):=YO E186i h
noncomputable abbrev K136:Con ((List Tapi_Coin)×Tapi_Tx×Int) ((List Tapi_Coin)×Int):=cn (a3 (eS Zs) (eG ZR) (eI .i64)) (r2 (eS Zs) (eI .i64)) (u3 ZgJ)
noncomputable abbrev K137:=cn (a1 (eS Zs)) (r1 (eI .i64)) Zdh
noncomputable abbrev K89:Con (Tapi_Params×Tapi_Ledger×Tapi_Block) (Tapi_Ledger×(List Tapi_Coin)×Int):=cn (a3 (eG YB) (eG Xj) (eG Yo)) (r3 (eG Xj) (eG ZeP) (eI .i64)) (u3 Zb5)
noncomputable abbrev K142:=cn (a2 (eG YB) (eG YH)) (r1 eB) (u2 ZfR)
noncomputable abbrev K91:Con (Tapi_Params×Tapi_Context×Tapi_Header) (Tapi_Context×Int):=cn (a3 (eG YB) (eG YH) (eG eapi_Header)) (r2 (eG YH) (eI .i64)) (u3 Zbq)
noncomputable abbrev K90:=cn (a4 (eG YB) (eG YH) (eG eapi_Header) (eI .u32)) (r1 (eI .i64)) (u4 Zcc)
noncomputable abbrev K144:=cn (a1 (eA .u64)) (r1 (eA .u64)) Zii
noncomputable abbrev K92:Con Int Tapi_Params:=cn (a1 (eI .u8)) (r1 (eG YB)) ZeB
noncomputable abbrev K93:Con Tapi_Params (Tapi_Ledger×Int):=cn (a1 (eG YB)) (r2 (eG Xj) (eI .i64)) ZeC
noncomputable abbrev K94:Con Tapi_Params (Tapi_Context×Int):=cn (a1 (eG YB)) (r2 (eG YH) (eI .i64)) ZeD
noncomputable abbrev K50:Con Int Tlightclientmade_World:=cn (a1 (eI .u8)) (fun _ y=>(.agg ((.v (.int .u32 y.1.1.1)) :: ((arC .u8 y.1.1.2.1)++((arC .u8 y.1.1.2.2.1)++((.v (.int .u32 y.1.1.2.2.2.1)) :: ((.v (.int .u32 y.1.1.2.2.2.2.1)) :: ((.v (.int .u32 y.1.1.2.2.2.2.2)) :: ((arC .u64 y.1.2.1)++((.v (.int .i64 y.1.2.2.1)) :: ((.v (.int .u32 y.1.2.2.2.1)) :: ((.v (.int .u32 y.1.2.2.2.2.1)) :: ((.v (.int .u32 y.1.2.2.2.2.2.1)) :: ((.slice .no (List.map eapi_Checkpoint y.1.2.2.2.2.2.2.1)) :: ((.v (.int .i64 y.1.2.2.2.2.2.2.2.1)) :: ((.v (.int .i64 y.1.2.2.2.2.2.2.2.2.1)) :: ((.v (.int .i64 y.1.2.2.2.2.2.2.2.2.2)) :: ((.slice .no (List.map Yo y.2.1)) :: ((.own 34 (List.map Xj y.2.2.1)) :: ((.own 36 (List.map YH y.2.2.2.1)) :: ((.slice .no (List.map ZeP y.2.2.2.2)) :: []))))))))))))))))))),[])) ZfS
def E49_7 (x:Tlightclientmade_World×(List Int)):List PV:=[.agg ((.v (.int .u32 x.1.1.1.1)) :: ((arC .u8 x.1.1.1.2.1)++((arC .u8 x.1.1.1.2.2.1)++((.v (.int .u32 x.1.1.1.2.2.2.1)) :: ((.v (.int .u32 x.1.1.1.2.2.2.2.1)) :: ((.v (.int .u32 x.1.1.1.2.2.2.2.2)) :: ((arC .u64 x.1.1.2.1)++((.v (.int .i64 x.1.1.2.2.1)) :: ((.v (.int .u32 x.1.1.2.2.2.1)) :: ((.v (.int .u32 x.1.1.2.2.2.2.1)) :: ((.v (.int .u32 x.1.1.2.2.2.2.2.1)) :: ((.slice .no (List.map eapi_Checkpoint x.1.1.2.2.2.2.2.2.1)) :: ((.v (.int .i64 x.1.1.2.2.2.2.2.2.2.1)) :: ((.v (.int .i64 x.1.1.2.2.2.2.2.2.2.2.1)) :: ((.v (.int .i64 x.1.1.2.2.2.2.2.2.2.2.2)) :: ((.slice .no (List.map Yo x.1.2.1)) :: ((.own 34 (List.map Xj x.1.2.2.1)) :: ((.own 36 (List.map YH x.1.2.2.2.1)) :: ((.slice .no (List.map ZeP x.1.2.2.2.2)) :: []))))))))))))))))))),.one (.slice .no (Zf .u8 x.2))]
instance:Yg E49_7:=⟨by intro a b h; simpa[E49_7,Prod.ext_iff,and_assoc] using h⟩
noncomputable abbrev K49_7:Con (Tlightclientmade_World×(List Int)) Tlightclientmade_World:=cn E49_7 (fun _ y=>(.agg ((.v (.int .u32 y.1.1.1)) :: ((arC .u8 y.1.1.2.1)++((arC .u8 y.1.1.2.2.1)++((.v (.int .u32 y.1.1.2.2.2.1)) :: ((.v (.int .u32 y.1.1.2.2.2.2.1)) :: ((.v (.int .u32 y.1.1.2.2.2.2.2)) :: ((arC .u64 y.1.2.1)++((.v (.int .i64 y.1.2.2.1)) :: ((.v (.int .u32 y.1.2.2.2.1)) :: ((.v (.int .u32 y.1.2.2.2.2.1)) :: ((.v (.int .u32 y.1.2.2.2.2.2.1)) :: ((.slice .no (List.map eapi_Checkpoint y.1.2.2.2.2.2.2.1)) :: ((.v (.int .i64 y.1.2.2.2.2.2.2.2.1)) :: ((.v (.int .i64 y.1.2.2.2.2.2.2.2.2.1)) :: ((.v (.int .i64 y.1.2.2.2.2.2.2.2.2.2)) :: ((.own 69 (List.map Yo y.2.1)) :: ((.own 34 (List.map Xj y.2.2.1)) :: ((.own 36 (List.map YH y.2.2.2.1)) :: ((.own 1 (List.map ZeP y.2.2.2.2)) :: []))))))))))))))))))),[])) (u2 ZfV)
noncomputable abbrev K20:Con (Int×(List Int)) Tlightclientmade_World:=cn (a2 (eI .u8) (eL .u8)) (fun _ y=>(.agg ((.v (.int .u32 y.1.1.1)) :: ((arC .u8 y.1.1.2.1)++((arC .u8 y.1.1.2.2.1)++((.v (.int .u32 y.1.1.2.2.2.1)) :: ((.v (.int .u32 y.1.1.2.2.2.2.1)) :: ((.v (.int .u32 y.1.1.2.2.2.2.2)) :: ((arC .u64 y.1.2.1)++((.v (.int .i64 y.1.2.2.1)) :: ((.v (.int .u32 y.1.2.2.2.1)) :: ((.v (.int .u32 y.1.2.2.2.2.1)) :: ((.v (.int .u32 y.1.2.2.2.2.2.1)) :: ((.slice .no (List.map eapi_Checkpoint y.1.2.2.2.2.2.2.1)) :: ((.v (.int .i64 y.1.2.2.2.2.2.2.2.1)) :: ((.v (.int .i64 y.1.2.2.2.2.2.2.2.2.1)) :: ((.v (.int .i64 y.1.2.2.2.2.2.2.2.2.2)) :: ((.own 69 (List.map Yo y.2.1)) :: ((.own 34 (List.map Xj y.2.2.1)) :: ((.own 36 (List.map YH y.2.2.2.1)) :: ((.own 1 (List.map ZeP y.2.2.2.2)) :: []))))))))))))))))))),[])) (u2 ZbR)
noncomputable abbrev K21:=cn (a2 (eL .u8) (eI .i64)) (r1 (eL .u8)) (u2 Ze5)
noncomputable abbrev K25:=cn (a2 (eL .u8) (eL .u8)) (r1 eB) (u2 Zbw)
def E6 (x:Int×(List Int)×(List Int)):List PV:=[.one (.v (.int .u8 x.1)),.one (.slice .no (Zf .u8 x.2.1)),.one (.slice .no (Zf .u8 x.2.2))]
theorem E6i:∀ a b,E6 a=E6 b→a=b:=by
  rintro⟨a0,a1,a2⟩ ⟨b0,b1,b2⟩ h
  simpa[E6,and_assoc] using h
def R6 (x:Int×(List Int)×(List Int)) (y:Bool):PV×List (List Cell):=(.one (.v (.bool y)),[])
noncomputable def G6:=Zab E6 fun x=>(Y6 x.1 x.2.1 x.2.2).map (R6 x)
theorem Zzb {a0:Int}{a1:(List Int)}{a2:(List Int)}{y:Bool}(h:Y6 a0 a1 a2=some y):G6 (E6 (a0,a1,a2))=some (R6 (a0,a1,a2) y):=YO E6i h
theorem rg {tt:TT}{T:Tab}{G:Glob}{a b:List Oper}{st st1:ASt}(h:Zcr tt T G a b st=some st1:=by
  first
    | (simp[-Int.ofNat_toNat,ZF, *] <;> first | rfl | (repeat (simp(disch:=omega) only[leT,ltT,ZjJ,ZjK,leF,ltF,ZjL,ZjM,Za6]; try simp[-Int.ofNat_toNat,ZF, *])) <;> rfl)
    | fail):Zcr tt T G a b st=some st1:=h
theorem dr {tt:TT}{T:Tab}{G:Glob}{a b:List Oper}{st st1:ASt}{fs:List Foot}(h:ZcW tt T G a b st=some (st1,fs):=by
  first
    | (simp[-Int.ofNat_toNat,ZF, *] <;> first | exact⟨rfl,rfl⟩ | rfl | (repeat (simp(disch:=omega) only[leT,ltT,ZjJ,ZjK,leF,ltF,ZjL,ZjM,Za6]; try simp[-Int.ofNat_toNat,ZF, *])) <;> first | exact⟨rfl,rfl⟩ | rfl)
    | fail):ZcW tt T G a b st=some (st1,fs):=h
theorem rgA {tt:TT}{T:Tab}{G:Glob}{a b:List Oper}{st st1:ASt}(h:Zcr tt T G a b st=some st1:=by
  first
    | (simp[-Int.ofNat_toNat,Nat.add_assoc,ZF, *] <;> first | rfl | (repeat (simp(disch:=omega) only[leT,ltT,ZjJ,ZjK,leF,ltF,ZjL,ZjM,Za6]; try simp[-Int.ofNat_toNat,Nat.add_assoc,ZF, *])) <;> rfl)
    | fail):Zcr tt T G a b st=some st1:=h
theorem drA {tt:TT}{T:Tab}{G:Glob}{a b:List Oper}{st st1:ASt}{fs:List Foot}(h:ZcW tt T G a b st=some (st1,fs):=by
  first
    | (simp[-Int.ofNat_toNat,Nat.add_assoc,ZF, *] <;> first | exact⟨rfl,rfl⟩ | rfl | (repeat (simp(disch:=omega) only[leT,ltT,ZjJ,ZjK,leF,ltF,ZjL,ZjM,Za6]; try simp[-Int.ofNat_toNat,Nat.add_assoc,ZF, *])) <;> first | exact⟨rfl,rfl⟩ | rfl)
    | fail):ZcW tt T G a b st=some (st1,fs):=h
theorem rgAD {tt:TT}{T:Tab}{G:Glob}{a b:List Oper}{st st1:ASt}(h:Zcr tt T G a b st=some st1:=by
  first
    | (simp[-Int.ofNat_toNat,Nat.add_assoc,-Int.natCast_tdiv_eq_ediv,ZF, *] <;> first | rfl | (repeat (simp(disch:=omega) only[leT,ltT,ZjJ,ZjK,leF,ltF,ZjL,ZjM,Za6]; try simp[-Int.ofNat_toNat,Nat.add_assoc,-Int.natCast_tdiv_eq_ediv,ZF, *])) <;> rfl)
    | fail):Zcr tt T G a b st=some st1:=h
theorem drAD {tt:TT}{T:Tab}{G:Glob}{a b:List Oper}{st st1:ASt}{fs:List Foot}(h:ZcW tt T G a b st=some (st1,fs):=by
  first
    | (simp[-Int.ofNat_toNat,Nat.add_assoc,-Int.natCast_tdiv_eq_ediv,ZF, *] <;> first | exact⟨rfl,rfl⟩ | rfl | (repeat (simp(disch:=omega) only[leT,ltT,ZjJ,ZjK,leF,ltF,ZjL,ZjM,Za6]; try simp[-Int.ofNat_toNat,Nat.add_assoc,-Int.natCast_tdiv_eq_ediv,ZF, *])) <;> first | exact⟨rfl,rfl⟩ | rfl)
    | fail):ZcW tt T G a b st=some (st1,fs):=h
theorem ZuJ {tt:TT}{T:Tab}{G:Glob}{a b:List Oper}{st st1:ASt}(h:Zcr tt T G a b st=some st1:=by
  first
    | (simp[-Int.ofNat_toNat,Nat.add_assoc,-Int.natCast_tdiv_eq_ediv,List.range,List.range.loop,-Yz,-List.take_append,-List.drop_append,ZF, *] <;> first | rfl | (repeat (simp(disch:=omega) only[leT,ltT,ZjJ,ZjK,leF,ltF,ZjL,ZjM,Za6]; try simp[-Int.ofNat_toNat,Nat.add_assoc,-Int.natCast_tdiv_eq_ediv,List.range,List.range.loop,-Yz,-List.take_append,-List.drop_append,ZF, *])) <;> rfl)
    | fail):Zcr tt T G a b st=some st1:=h
theorem ZuK {tt:TT}{T:Tab}{G:Glob}{a b:List Oper}{st st1:ASt}{fs:List Foot}(h:ZcW tt T G a b st=some (st1,fs):=by
  first
    | (simp[-Int.ofNat_toNat,Nat.add_assoc,-Int.natCast_tdiv_eq_ediv,List.range,List.range.loop,-Yz,-List.take_append,-List.drop_append,ZF, *] <;> first | exact⟨rfl,rfl⟩ | rfl | (repeat (simp(disch:=omega) only[leT,ltT,ZjJ,ZjK,leF,ltF,ZjL,ZjM,Za6]; try simp[-Int.ofNat_toNat,Nat.add_assoc,-Int.natCast_tdiv_eq_ediv,List.range,List.range.loop,-Yz,-List.take_append,-List.drop_append,ZF, *])) <;> first | exact⟨rfl,rfl⟩ | rfl)
    | fail):ZcW tt T G a b st=some (st1,fs):=h
theorem rgL {tt:TT}{T:Tab}{G:Glob}{a b:List Oper}{st st1:ASt}(h:Zcr tt T G a b st=some st1:=by
  first
    | (simp[-Int.ofNat_toNat,-Zt,Zo,ZF, *] <;> first | rfl | (repeat (simp(disch:=omega) only[leT,ltT,ZjJ,ZjK,leF,ltF,ZjL,ZjM,Za6]; try simp[-Int.ofNat_toNat,-Zt,Zo,ZF, *])) <;> rfl)
    | fail):Zcr tt T G a b st=some st1:=h
theorem drL {tt:TT}{T:Tab}{G:Glob}{a b:List Oper}{st st1:ASt}{fs:List Foot}(h:ZcW tt T G a b st=some (st1,fs):=by
  first
    | (simp[-Int.ofNat_toNat,-Zt,Zo,ZF, *] <;> first | exact⟨rfl,rfl⟩ | rfl | (repeat (simp(disch:=omega) only[leT,ltT,ZjJ,ZjK,leF,ltF,ZjL,ZjM,Za6]; try simp[-Int.ofNat_toNat,-Zt,Zo,ZF, *])) <;> first | exact⟨rfl,rfl⟩ | rfl)
    | fail):ZcW tt T G a b st=some (st1,fs):=h
theorem rgR {tt:TT}{T:Tab}{G:Glob}{a b:List Oper}{st st1:ASt}(h:Zcr tt T G a b st=some st1:=by
  first
    | (simp[-Int.ofNat_toNat,List.range,List.range.loop,ZF, *] <;> first | rfl | (repeat (simp(disch:=omega) only[leT,ltT,ZjJ,ZjK,leF,ltF,ZjL,ZjM,Za6]; try simp[-Int.ofNat_toNat,List.range,List.range.loop,ZF, *])) <;> rfl)
    | fail):Zcr tt T G a b st=some st1:=h
theorem drR {tt:TT}{T:Tab}{G:Glob}{a b:List Oper}{st st1:ASt}{fs:List Foot}(h:ZcW tt T G a b st=some (st1,fs):=by
  first
    | (simp[-Int.ofNat_toNat,List.range,List.range.loop,ZF, *] <;> first | exact⟨rfl,rfl⟩ | rfl | (repeat (simp(disch:=omega) only[leT,ltT,ZjJ,ZjK,leF,ltF,ZjL,ZjM,Za6]; try simp[-Int.ofNat_toNat,List.range,List.range.loop,ZF, *])) <;> first | exact⟨rfl,rfl⟩ | rfl)
    | fail):ZcW tt T G a b st=some (st1,fs):=h
theorem au {P:Prop}{R1 R2 R3:Prop}(k1:R1:=by exact trivial) (k2:R2:=by exact trivial) (k3:R3:=by exact trivial) (t:∀ X1:Prop,X1→ZaR X1 R1→∀ X2:Prop,X2→ZaR X2 R2→∀ X3:Prop,X3→ZaR X3 R3→P:=by
  intro X1 x1 e1 X2 x2 e2 X3 x3 e3;try simp only[upd,Ziu,updB,setB,List.foldl,List.set,und,List.replicate,List.cons_append,List.nil_append,reduceIte,Nat.lt_irrefl,Nat.reduceLT]
  repeat' (first
    | (with_reducible refine Zkj ?_)
    | (with_reducible refine Zki (by assumption) ?_)
    | ((with_reducible refine ZkJ ?_); intro v f f f)
    | (with_reducible refine ZiX (by assumption) ?_)
    | ((with_reducible refine Zls ?_); intro f; try simp only[List.length_replicate,List.length_set,List.length_take,List.length_drop,List.length_append] at f)
    | ((with_reducible refine Zkh ?_); intro v f f; try simp only[Con.Q,kS,nf,nfs,E42,R42,E159_1,E160_2,ZjW,Zlj,Zcn,ZeK,Zco,ZeL,E122_6,Zg0,Zja,E95,R95,Zg1,Zjb,ZjX,Zlk,ZjY,Zll,Zg2,Zjc,Zg3,Zjd,ZhV,ZjZ,ZhW,Zj0,E49_7,List.length_replicate,List.length_set] at f)
    | ((with_reducible refine Zlv ?_); intro e; subst e; refine Zkl ?_)
    | ((with_reducible refine Zlu ?_); intro v e; (try rw[e]))
    | (with_reducible refine Zh1 ?_)
    | (with_reducible exact im_none)
    | (with_reducible exact ZiY)
    | ((with_reducible refine Zaa ?_); (repeat (first | revert f | revert g | revert e | revert v)); exact ZfY e1 x1)
    | ((with_reducible refine Zaa ?_); (repeat (first | revert f | revert g | revert e | revert v)); exact ZfY e2 x2)
    | ((with_reducible refine Zaa ?_); (repeat (first | revert f | revert g | revert e | revert v)); exact ZfY e3 x3)
    | (with_reducible refine Ze6 ?_)
    | (with_reducible refine ZbF ?_)
    | (with_reducible refine ZaS ?_)
    | (with_reducible refine ZbG ?_)
    | (with_reducible refine Zcx ?_)
    | (with_reducible refine Ze7 ?_)
    | (with_reducible refine ZgN ?_)
    | (with_reducible refine ZgO ?_)
    | (with_reducible refine Zit ?_)
    | ((with_reducible refine YF ?_ ?_); · simp[-Int.ofNat_toNat,bV, *]; done)
    | ((with_reducible refine YG ?_ ?_); · simp[-Int.ofNat_toNat,bV, *]; done)
    | (refine Zcw rfl rg ?_)
    | (refine ZbE rfl dr (by kernel_rfl) ?_)
    | ((with_reducible refine Zay ?_ ?_); · simp[-Int.ofNat_toNat,bV, *]; done)
    | ((with_reducible refine Zaz ?_ ?_); · simp[-Int.ofNat_toNat,bV, *]; done)
    | (refine Zis rfl rg ?_)
    | (refine ZgM rfl dr (by kernel_rfl) ?_)
    | (refine Ze8 ?_ (by simp only[pq,reduceCtorEq]; rfl))
    | (refine Ze8 ?_ (if_neg (by decide)))
    | (with_reducible refine ZeI (by assumption) ?_)
    | (with_reducible refine ZeI (of_eq_true (by assumption)) ?_)
    | (with_reducible refine ZkK (by assumption) ?_)
    | (with_reducible refine ZcV (by assumption) ?_)
    | (with_reducible refine ZcV (of_eq_true (by assumption)) ?_)
    | (with_reducible refine ZiZ (by assumption) ?_)
    | (with_reducible refine Zkk ?_)
    | (with_reducible refine Zi0 ?_)
    | (with_reducible refine Zi1 ?_)
    | ((with_reducible refine Zm7 ?_ ?_) <;> (intro f; (try replace f:=Classical.not_not.1 f); have g:=nrm f; try replace f:=eqI f))
    | ((with_reducible refine Zlt ?_ ?_) <;> (intro f; (try replace f:=Classical.not_not.1 f); have g:=nrm f; try replace f:=eqI f))
    | ((with_reducible refine YF ?_ ?_); · simp[-Int.ofNat_toNat,bV, *]; omega)
    | ((with_reducible refine YG ?_ ?_); · simp[-Int.ofNat_toNat,bV, *]; omega)
    | ((with_reducible refine Zay ?_ ?_); · simp[-Int.ofNat_toNat,bV, *]; omega)
    | ((with_reducible refine Zaz ?_ ?_); · simp[-Int.ofNat_toNat,bV, *]; omega)
    | ((with_reducible refine Zm8 ?_); intro e; (try rw[e]))
    | ((fail_if_success (have:v=true:=by assumption)); (fail_if_success (have:v=false:=by assumption)); (with_reducible refine Zkm v ?_ ?_) <;> (intro f; try (exfalso; simp_all; done)))
    | (intro _; simp[-Int.ofNat_toNat,XT,ZF, *]; done)
    | (intro _; simp only[pq,reduceCtorEq]; simp[-Int.ofNat_toNat,und,List.replicate,Nat.add_assoc,upd,Ziu,updB, *]; done))):P:=t R1 k1 ⟨rfl⟩ R2 k2 ⟨rfl⟩ R3 k3 ⟨rfl⟩
theorem auA {P:Prop}{R1 R2 R3:Prop}(k1:R1:=by exact trivial) (k2:R2:=by exact trivial) (k3:R3:=by exact trivial) (t:∀ X1:Prop,X1→ZaR X1 R1→∀ X2:Prop,X2→ZaR X2 R2→∀ X3:Prop,X3→ZaR X3 R3→P:=by
  intro X1 x1 e1 X2 x2 e2 X3 x3 e3;try simp only[upd,Ziu,updB,setB,List.foldl,List.set,und,List.replicate,List.cons_append,List.nil_append,reduceIte,Nat.lt_irrefl,Nat.reduceLT]
  repeat' (first
    | (with_reducible refine Zkj ?_)
    | (with_reducible refine Zki (by assumption) ?_)
    | ((with_reducible refine ZkJ ?_); intro v f f f)
    | (with_reducible refine ZiX (by assumption) ?_)
    | ((with_reducible refine Zls ?_); intro f; try simp only[List.length_replicate,List.length_set,List.length_take,List.length_drop,List.length_append] at f)
    | ((with_reducible refine Zkh ?_); intro v f f; try simp only[Con.Q,kS,nf,nfs,E42,R42,E159_1,E160_2,ZjW,Zlj,Zcn,ZeK,Zco,ZeL,E122_6,Zg0,Zja,E95,R95,Zg1,Zjb,ZjX,Zlk,ZjY,Zll,Zg2,Zjc,Zg3,Zjd,ZhV,ZjZ,ZhW,Zj0,E49_7,List.length_replicate,List.length_set] at f)
    | ((with_reducible refine Zlv ?_); intro e; subst e; refine Zkl ?_)
    | ((with_reducible refine Zlu ?_); intro v e; (try rw[e]))
    | (with_reducible refine Zh1 ?_)
    | (with_reducible exact im_none)
    | (with_reducible exact ZiY)
    | ((with_reducible refine Zaa ?_); (repeat (first | revert f | revert g | revert e | revert v)); exact ZfY e1 x1)
    | ((with_reducible refine Zaa ?_); (repeat (first | revert f | revert g | revert e | revert v)); exact ZfY e2 x2)
    | ((with_reducible refine Zaa ?_); (repeat (first | revert f | revert g | revert e | revert v)); exact ZfY e3 x3)
    | (with_reducible refine Ze6 ?_)
    | (with_reducible refine ZbF ?_)
    | (with_reducible refine ZaS ?_)
    | (with_reducible refine ZbG ?_)
    | (with_reducible refine Zcx ?_)
    | (with_reducible refine Ze7 ?_)
    | (with_reducible refine ZgN ?_)
    | (with_reducible refine ZgO ?_)
    | (with_reducible refine Zit ?_)
    | ((with_reducible refine YF ?_ ?_); · simp[-Int.ofNat_toNat,bV, *]; done)
    | ((with_reducible refine YG ?_ ?_); · simp[-Int.ofNat_toNat,bV, *]; done)
    | (refine Zcw rfl rgA ?_)
    | (refine ZbE rfl drA (by kernel_rfl) ?_)
    | ((with_reducible refine Zay ?_ ?_); · simp[-Int.ofNat_toNat,bV, *]; done)
    | ((with_reducible refine Zaz ?_ ?_); · simp[-Int.ofNat_toNat,bV, *]; done)
    | (refine Zis rfl rgA ?_)
    | (refine ZgM rfl drA (by kernel_rfl) ?_)
    | (refine Ze8 ?_ (by simp only[pq,reduceCtorEq]; rfl))
    | (refine Ze8 ?_ (if_neg (by decide)))
    | (with_reducible refine ZeI (by assumption) ?_)
    | (with_reducible refine ZeI (of_eq_true (by assumption)) ?_)
    | (with_reducible refine ZkK (by assumption) ?_)
    | (with_reducible refine ZcV (by assumption) ?_)
    | (with_reducible refine ZcV (of_eq_true (by assumption)) ?_)
    | (with_reducible refine ZiZ (by assumption) ?_)
    | (with_reducible refine Zkk ?_)
    | (with_reducible refine Zi0 ?_)
    | (with_reducible refine Zi1 ?_)
    | ((with_reducible refine Zm7 ?_ ?_) <;> (intro f; (try replace f:=Classical.not_not.1 f); have g:=nrm f; try replace f:=eqI f))
    | ((with_reducible refine Zlt ?_ ?_) <;> (intro f; (try replace f:=Classical.not_not.1 f); have g:=nrm f; try replace f:=eqI f))
    | ((with_reducible refine YF ?_ ?_); · simp[-Int.ofNat_toNat,bV, *]; omega)
    | ((with_reducible refine YG ?_ ?_); · simp[-Int.ofNat_toNat,bV, *]; omega)
    | ((with_reducible refine Zay ?_ ?_); · simp[-Int.ofNat_toNat,bV, *]; omega)
    | ((with_reducible refine Zaz ?_ ?_); · simp[-Int.ofNat_toNat,bV, *]; omega)
    | ((with_reducible refine Zm8 ?_); intro e; (try rw[e]))
    | ((fail_if_success (have:v=true:=by assumption)); (fail_if_success (have:v=false:=by assumption)); (with_reducible refine Zkm v ?_ ?_) <;> (intro f; try (exfalso; simp_all; done)))
    | (intro _; simp[-Int.ofNat_toNat,XT,ZF, *]; done)
    | (intro _; simp only[pq,reduceCtorEq]; simp[-Int.ofNat_toNat,und,List.replicate,Nat.add_assoc,upd,Ziu,updB, *]; done))):P:=t R1 k1 ⟨rfl⟩ R2 k2 ⟨rfl⟩ R3 k3 ⟨rfl⟩
theorem ZhX {P:Prop}{R1 R2 R3:Prop}(k1:R1:=by exact trivial) (k2:R2:=by exact trivial) (k3:R3:=by exact trivial) (t:∀ X1:Prop,X1→ZaR X1 R1→∀ X2:Prop,X2→ZaR X2 R2→∀ X3:Prop,X3→ZaR X3 R3→P:=by
  intro X1 x1 e1 X2 x2 e2 X3 x3 e3;try simp only[upd,Ziu,updB,setB,List.foldl,List.set,und,List.replicate,List.cons_append,List.nil_append,reduceIte,Nat.lt_irrefl,Nat.reduceLT]
  repeat' (first
    | (with_reducible refine Zkj ?_)
    | (with_reducible refine Zki (by assumption) ?_)
    | ((with_reducible refine ZkJ ?_); intro v f f f)
    | (with_reducible refine ZiX (by assumption) ?_)
    | ((with_reducible refine Zls ?_); intro f; try simp only[List.length_replicate,List.length_set,List.length_take,List.length_drop,List.length_append] at f)
    | ((with_reducible refine Zkh ?_); intro v f f; try simp only[Con.Q,kS,nf,nfs,E42,R42,E159_1,E160_2,ZjW,Zlj,Zcn,ZeK,Zco,ZeL,E122_6,Zg0,Zja,E95,R95,Zg1,Zjb,ZjX,Zlk,ZjY,Zll,Zg2,Zjc,Zg3,Zjd,ZhV,ZjZ,ZhW,Zj0,E49_7,List.length_replicate,List.length_set] at f)
    | ((with_reducible refine Zlv ?_); intro e; subst e; refine Zkl ?_)
    | ((with_reducible refine Zlu ?_); intro v e; (try rw[e]))
    | (with_reducible refine Zh1 ?_)
    | (with_reducible exact im_none)
    | (with_reducible exact ZiY)
    | ((with_reducible refine Zaa ?_); (repeat (first | revert f | revert g | revert e | revert v)); exact ZfY e1 x1)
    | ((with_reducible refine Zaa ?_); (repeat (first | revert f | revert g | revert e | revert v)); exact ZfY e2 x2)
    | ((with_reducible refine Zaa ?_); (repeat (first | revert f | revert g | revert e | revert v)); exact ZfY e3 x3)
    | (with_reducible refine Ze6 ?_)
    | (with_reducible refine ZbF ?_)
    | (with_reducible refine ZaS ?_)
    | (with_reducible refine ZbG ?_)
    | (with_reducible refine Zcx ?_)
    | (with_reducible refine Ze7 ?_)
    | (with_reducible refine ZgN ?_)
    | (with_reducible refine ZgO ?_)
    | (with_reducible refine Zit ?_)
    | ((with_reducible refine YF ?_ ?_); · simp[-Int.ofNat_toNat,bV, *]; done)
    | ((with_reducible refine YG ?_ ?_); · simp[-Int.ofNat_toNat,bV, *]; done)
    | (refine Zcw rfl rgAD ?_)
    | (refine ZbE rfl drAD (by kernel_rfl) ?_)
    | ((with_reducible refine Zay ?_ ?_); · simp[-Int.ofNat_toNat,bV, *]; done)
    | ((with_reducible refine Zaz ?_ ?_); · simp[-Int.ofNat_toNat,bV, *]; done)
    | (refine Zis rfl rgAD ?_)
    | (refine ZgM rfl drAD (by kernel_rfl) ?_)
    | (refine Ze8 ?_ (by simp only[pq,reduceCtorEq]; rfl))
    | (refine Ze8 ?_ (if_neg (by decide)))
    | (with_reducible refine ZeI (by assumption) ?_)
    | (with_reducible refine ZeI (of_eq_true (by assumption)) ?_)
    | (with_reducible refine ZkK (by assumption) ?_)
    | (with_reducible refine ZcV (by assumption) ?_)
    | (with_reducible refine ZcV (of_eq_true (by assumption)) ?_)
    | (with_reducible refine ZiZ (by assumption) ?_)
    | (with_reducible refine Zkk ?_)
    | (with_reducible refine Zi0 ?_)
    | (with_reducible refine Zi1 ?_)
    | ((with_reducible refine Zm7 ?_ ?_) <;> (intro f; (try replace f:=Classical.not_not.1 f); have g:=nrm f; try replace f:=eqI f))
    | ((with_reducible refine Zlt ?_ ?_) <;> (intro f; (try replace f:=Classical.not_not.1 f); have g:=nrm f; try replace f:=eqI f))
    | ((with_reducible refine YF ?_ ?_); · simp[-Int.ofNat_toNat,bV, *]; omega)
    | ((with_reducible refine YG ?_ ?_); · simp[-Int.ofNat_toNat,bV, *]; omega)
    | ((with_reducible refine Zay ?_ ?_); · simp[-Int.ofNat_toNat,bV, *]; omega)
    | ((with_reducible refine Zaz ?_ ?_); · simp[-Int.ofNat_toNat,bV, *]; omega)
    | ((with_reducible refine Zm8 ?_); intro e; (try rw[e]))
    | ((fail_if_success (have:v=true:=by assumption)); (fail_if_success (have:v=false:=by assumption)); (with_reducible refine Zkm v ?_ ?_) <;> (intro f; try (exfalso; simp_all; done)))
    | (intro _; simp[-Int.ofNat_toNat,XT,ZF, *]; done)
    | (intro _; simp only[pq,reduceCtorEq]; simp[-Int.ofNat_toNat,und,List.replicate,Nat.add_assoc,upd,Ziu,updB, *]; done))):P:=t R1 k1 ⟨rfl⟩ R2 k2 ⟨rfl⟩ R3 k3 ⟨rfl⟩
theorem Zrb {P:Prop}{R1 R2 R3:Prop}(k1:R1:=by exact trivial) (k2:R2:=by exact trivial) (k3:R3:=by exact trivial) (t:∀ X1:Prop,X1→ZaR X1 R1→∀ X2:Prop,X2→ZaR X2 R2→∀ X3:Prop,X3→ZaR X3 R3→P:=by
  intro X1 x1 e1 X2 x2 e2 X3 x3 e3;try simp only[upd,Ziu,updB,setB,List.foldl,List.set,und,List.replicate,List.cons_append,List.nil_append,reduceIte,Nat.lt_irrefl,Nat.reduceLT]
  repeat' (first
    | (with_reducible refine Zkj ?_)
    | (with_reducible refine Zki (by assumption) ?_)
    | ((with_reducible refine ZkJ ?_); intro v f f f)
    | (with_reducible refine ZiX (by assumption) ?_)
    | ((with_reducible refine Zls ?_); intro f; try simp only[List.length_replicate,List.length_set,List.length_take,List.length_drop,List.length_append] at f)
    | ((with_reducible refine Zkh ?_); intro v f f; try simp only[Con.Q,kS,nf,nfs,E42,R42,E159_1,E160_2,ZjW,Zlj,Zcn,ZeK,Zco,ZeL,E122_6,Zg0,Zja,E95,R95,Zg1,Zjb,ZjX,Zlk,ZjY,Zll,Zg2,Zjc,Zg3,Zjd,ZhV,ZjZ,ZhW,Zj0,E49_7,List.length_replicate,List.length_set] at f)
    | ((with_reducible refine Zlv ?_); intro e; subst e; refine Zkl ?_)
    | ((with_reducible refine Zlu ?_); intro v e; (try rw[e]))
    | (with_reducible refine Zh1 ?_)
    | (with_reducible exact im_none)
    | (with_reducible exact ZiY)
    | ((with_reducible refine Zaa ?_); (repeat (first | revert f | revert g | revert e | revert v)); exact ZfY e1 x1)
    | ((with_reducible refine Zaa ?_); (repeat (first | revert f | revert g | revert e | revert v)); exact ZfY e2 x2)
    | ((with_reducible refine Zaa ?_); (repeat (first | revert f | revert g | revert e | revert v)); exact ZfY e3 x3)
    | (with_reducible refine Ze6 ?_)
    | (with_reducible refine ZbF ?_)
    | (with_reducible refine ZaS ?_)
    | (with_reducible refine ZbG ?_)
    | (with_reducible refine Zcx ?_)
    | (with_reducible refine Ze7 ?_)
    | (with_reducible refine ZgN ?_)
    | (with_reducible refine ZgO ?_)
    | (with_reducible refine Zit ?_)
    | ((with_reducible refine YF ?_ ?_); · simp[-Int.ofNat_toNat,bV, *]; done)
    | ((with_reducible refine YG ?_ ?_); · simp[-Int.ofNat_toNat,bV, *]; done)
    | (refine Zcw rfl ZuJ ?_)
    | (refine ZbE rfl ZuK (by kernel_rfl) ?_)
    | ((with_reducible refine Zay ?_ ?_); · simp[-Int.ofNat_toNat,bV, *]; done)
    | ((with_reducible refine Zaz ?_ ?_); · simp[-Int.ofNat_toNat,bV, *]; done)
    | (refine Zis rfl ZuJ ?_)
    | (refine ZgM rfl ZuK (by kernel_rfl) ?_)
    | (refine Ze8 ?_ (by simp only[pq,reduceCtorEq]; rfl))
    | (refine Ze8 ?_ (if_neg (by decide)))
    | (with_reducible refine ZeI (by assumption) ?_)
    | (with_reducible refine ZeI (of_eq_true (by assumption)) ?_)
    | (with_reducible refine ZkK (by assumption) ?_)
    | (with_reducible refine ZcV (by assumption) ?_)
    | (with_reducible refine ZcV (of_eq_true (by assumption)) ?_)
    | (with_reducible refine ZiZ (by assumption) ?_)
    | (with_reducible refine Zkk ?_)
    | (with_reducible refine Zi0 ?_)
    | (with_reducible refine Zi1 ?_)
    | ((with_reducible refine Zm7 ?_ ?_) <;> (intro f; (try replace f:=Classical.not_not.1 f); have g:=nrm f; try replace f:=eqI f))
    | ((with_reducible refine Zlt ?_ ?_) <;> (intro f; (try replace f:=Classical.not_not.1 f); have g:=nrm f; try replace f:=eqI f))
    | ((with_reducible refine YF ?_ ?_); · simp[-Int.ofNat_toNat,bV, *]; omega)
    | ((with_reducible refine YG ?_ ?_); · simp[-Int.ofNat_toNat,bV, *]; omega)
    | ((with_reducible refine Zay ?_ ?_); · simp[-Int.ofNat_toNat,bV, *]; omega)
    | ((with_reducible refine Zaz ?_ ?_); · simp[-Int.ofNat_toNat,bV, *]; omega)
    | ((with_reducible refine Zm8 ?_); intro e; (try rw[e]))
    | ((fail_if_success (have:v=true:=by assumption)); (fail_if_success (have:v=false:=by assumption)); (with_reducible refine Zkm v ?_ ?_) <;> (intro f; try (exfalso; simp_all; done)))
    | (intro _; simp[-Int.ofNat_toNat,XT,ZF, *]; done)
    | (intro _; simp only[pq,reduceCtorEq]; simp[-Int.ofNat_toNat,und,List.replicate,Nat.add_assoc,upd,Ziu,updB, *]; done))):P:=t R1 k1 ⟨rfl⟩ R2 k2 ⟨rfl⟩ R3 k3 ⟨rfl⟩
theorem auL {P:Prop}{R1 R2 R3:Prop}(k1:R1:=by exact trivial) (k2:R2:=by exact trivial) (k3:R3:=by exact trivial) (t:∀ X1:Prop,X1→ZaR X1 R1→∀ X2:Prop,X2→ZaR X2 R2→∀ X3:Prop,X3→ZaR X3 R3→P:=by
  intro X1 x1 e1 X2 x2 e2 X3 x3 e3;try simp only[upd,Ziu,updB,setB,List.foldl,List.set,und,List.replicate,List.cons_append,List.nil_append,reduceIte,Nat.lt_irrefl,Nat.reduceLT]
  repeat' (first
    | (with_reducible refine Zkj ?_)
    | (with_reducible refine Zki (by assumption) ?_)
    | ((with_reducible refine ZkJ ?_); intro v f f f)
    | (with_reducible refine ZiX (by assumption) ?_)
    | ((with_reducible refine Zls ?_); intro f; try simp only[List.length_replicate,List.length_set,List.length_take,List.length_drop,List.length_append] at f)
    | ((with_reducible refine Zkh ?_); intro v f f; try simp only[Con.Q,kS,nf,nfs,E42,R42,E159_1,E160_2,ZjW,Zlj,Zcn,ZeK,Zco,ZeL,E122_6,Zg0,Zja,E95,R95,Zg1,Zjb,ZjX,Zlk,ZjY,Zll,Zg2,Zjc,Zg3,Zjd,ZhV,ZjZ,ZhW,Zj0,E49_7,List.length_replicate,List.length_set] at f)
    | ((with_reducible refine Zlv ?_); intro e; subst e; refine Zkl ?_)
    | ((with_reducible refine Zlu ?_); intro v e; (try rw[e]))
    | (with_reducible refine Zh1 ?_)
    | (with_reducible exact im_none)
    | (with_reducible exact ZiY)
    | ((with_reducible refine Zaa ?_); (repeat (first | revert f | revert g | revert e | revert v)); exact ZfY e1 x1)
    | ((with_reducible refine Zaa ?_); (repeat (first | revert f | revert g | revert e | revert v)); exact ZfY e2 x2)
    | ((with_reducible refine Zaa ?_); (repeat (first | revert f | revert g | revert e | revert v)); exact ZfY e3 x3)
    | (with_reducible refine Ze6 ?_)
    | (with_reducible refine ZbF ?_)
    | (with_reducible refine ZaS ?_)
    | (with_reducible refine ZbG ?_)
    | (with_reducible refine Zcx ?_)
    | (with_reducible refine Ze7 ?_)
    | (with_reducible refine ZgN ?_)
    | (with_reducible refine ZgO ?_)
    | (with_reducible refine Zit ?_)
    | ((with_reducible refine YF ?_ ?_); · simp[-Int.ofNat_toNat,bV, *]; done)
    | ((with_reducible refine YG ?_ ?_); · simp[-Int.ofNat_toNat,bV, *]; done)
    | (refine Zcw rfl rgL ?_)
    | (refine ZbE rfl drL (by kernel_rfl) ?_)
    | ((with_reducible refine Zay ?_ ?_); · simp[-Int.ofNat_toNat,bV, *]; done)
    | ((with_reducible refine Zaz ?_ ?_); · simp[-Int.ofNat_toNat,bV, *]; done)
    | (refine Zis rfl rgL ?_)
    | (refine ZgM rfl drL (by kernel_rfl) ?_)
    | (refine Ze8 ?_ (by simp only[pq,reduceCtorEq]; rfl))
    | (refine Ze8 ?_ (if_neg (by decide)))
    | (with_reducible refine ZeI (by assumption) ?_)
    | (with_reducible refine ZeI (of_eq_true (by assumption)) ?_)
    | (with_reducible refine ZkK (by assumption) ?_)
    | (with_reducible refine ZcV (by assumption) ?_)
    | (with_reducible refine ZcV (of_eq_true (by assumption)) ?_)
    | (with_reducible refine ZiZ (by assumption) ?_)
    | (with_reducible refine Zkk ?_)
    | (with_reducible refine Zi0 ?_)
    | (with_reducible refine Zi1 ?_)
    | ((with_reducible refine Zm7 ?_ ?_) <;> (intro f; (try replace f:=Classical.not_not.1 f); have g:=nrm f; try replace f:=eqI f))
    | ((with_reducible refine Zlt ?_ ?_) <;> (intro f; (try replace f:=Classical.not_not.1 f); have g:=nrm f; try replace f:=eqI f))
    | ((with_reducible refine YF ?_ ?_); · simp[-Int.ofNat_toNat,bV, *]; omega)
    | ((with_reducible refine YG ?_ ?_); · simp[-Int.ofNat_toNat,bV, *]; omega)
    | ((with_reducible refine Zay ?_ ?_); · simp[-Int.ofNat_toNat,bV, *]; omega)
    | ((with_reducible refine Zaz ?_ ?_); · simp[-Int.ofNat_toNat,bV, *]; omega)
    | ((with_reducible refine Zm8 ?_); intro e; (try rw[e]))
    | ((fail_if_success (have:v=true:=by assumption)); (fail_if_success (have:v=false:=by assumption)); (with_reducible refine Zkm v ?_ ?_) <;> (intro f; try (exfalso; simp_all; done)))
    | (intro _; simp[-Int.ofNat_toNat,XT,ZF, *]; done)
    | (intro _; simp only[pq,reduceCtorEq]; simp[-Int.ofNat_toNat,und,List.replicate,Nat.add_assoc,upd,Ziu,updB, *]; done))):P:=t R1 k1 ⟨rfl⟩ R2 k2 ⟨rfl⟩ R3 k3 ⟨rfl⟩
theorem auR {P:Prop}{R1 R2 R3:Prop}(k1:R1:=by exact trivial) (k2:R2:=by exact trivial) (k3:R3:=by exact trivial) (t:∀ X1:Prop,X1→ZaR X1 R1→∀ X2:Prop,X2→ZaR X2 R2→∀ X3:Prop,X3→ZaR X3 R3→P:=by
  intro X1 x1 e1 X2 x2 e2 X3 x3 e3;try simp only[upd,Ziu,updB,setB,List.foldl,List.set,und,List.replicate,List.cons_append,List.nil_append,reduceIte,Nat.lt_irrefl,Nat.reduceLT]
  repeat' (first
    | (with_reducible refine Zkj ?_)
    | (with_reducible refine Zki (by assumption) ?_)
    | ((with_reducible refine ZkJ ?_); intro v f f f)
    | (with_reducible refine ZiX (by assumption) ?_)
    | ((with_reducible refine Zls ?_); intro f; try simp only[List.length_replicate,List.length_set,List.length_take,List.length_drop,List.length_append] at f)
    | ((with_reducible refine Zkh ?_); intro v f f; try simp only[Con.Q,kS,nf,nfs,E42,R42,E159_1,E160_2,ZjW,Zlj,Zcn,ZeK,Zco,ZeL,E122_6,Zg0,Zja,E95,R95,Zg1,Zjb,ZjX,Zlk,ZjY,Zll,Zg2,Zjc,Zg3,Zjd,ZhV,ZjZ,ZhW,Zj0,E49_7,List.length_replicate,List.length_set] at f)
    | ((with_reducible refine Zlv ?_); intro e; subst e; refine Zkl ?_)
    | ((with_reducible refine Zlu ?_); intro v e; (try rw[e]))
    | (with_reducible refine Zh1 ?_)
    | (with_reducible exact im_none)
    | (with_reducible exact ZiY)
    | ((with_reducible refine Zaa ?_); (repeat (first | revert f | revert g | revert e | revert v)); exact ZfY e1 x1)
    | ((with_reducible refine Zaa ?_); (repeat (first | revert f | revert g | revert e | revert v)); exact ZfY e2 x2)
    | ((with_reducible refine Zaa ?_); (repeat (first | revert f | revert g | revert e | revert v)); exact ZfY e3 x3)
    | (with_reducible refine Ze6 ?_)
    | (with_reducible refine ZbF ?_)
    | (with_reducible refine ZaS ?_)
    | (with_reducible refine ZbG ?_)
    | (with_reducible refine Zcx ?_)
    | (with_reducible refine Ze7 ?_)
    | (with_reducible refine ZgN ?_)
    | (with_reducible refine ZgO ?_)
    | (with_reducible refine Zit ?_)
    | ((with_reducible refine YF ?_ ?_); · simp[-Int.ofNat_toNat,bV, *]; done)
    | ((with_reducible refine YG ?_ ?_); · simp[-Int.ofNat_toNat,bV, *]; done)
    | (refine Zcw rfl rgR ?_)
    | (refine ZbE rfl drR (by kernel_rfl) ?_)
    | ((with_reducible refine Zay ?_ ?_); · simp[-Int.ofNat_toNat,bV, *]; done)
    | ((with_reducible refine Zaz ?_ ?_); · simp[-Int.ofNat_toNat,bV, *]; done)
    | (refine Zis rfl rgR ?_)
    | (refine ZgM rfl drR (by kernel_rfl) ?_)
    | (refine Ze8 ?_ (by simp only[pq,reduceCtorEq]; rfl))
    | (refine Ze8 ?_ (if_neg (by decide)))
    | (with_reducible refine ZeI (by assumption) ?_)
    | (with_reducible refine ZeI (of_eq_true (by assumption)) ?_)
    | (with_reducible refine ZkK (by assumption) ?_)
    | (with_reducible refine ZcV (by assumption) ?_)
    | (with_reducible refine ZcV (of_eq_true (by assumption)) ?_)
    | (with_reducible refine ZiZ (by assumption) ?_)
    | (with_reducible refine Zkk ?_)
    | (with_reducible refine Zi0 ?_)
    | (with_reducible refine Zi1 ?_)
    | ((with_reducible refine Zm7 ?_ ?_) <;> (intro f; (try replace f:=Classical.not_not.1 f); have g:=nrm f; try replace f:=eqI f))
    | ((with_reducible refine Zlt ?_ ?_) <;> (intro f; (try replace f:=Classical.not_not.1 f); have g:=nrm f; try replace f:=eqI f))
    | ((with_reducible refine YF ?_ ?_); · simp[-Int.ofNat_toNat,bV, *]; omega)
    | ((with_reducible refine YG ?_ ?_); · simp[-Int.ofNat_toNat,bV, *]; omega)
    | ((with_reducible refine Zay ?_ ?_); · simp[-Int.ofNat_toNat,bV, *]; omega)
    | ((with_reducible refine Zaz ?_ ?_); · simp[-Int.ofNat_toNat,bV, *]; omega)
    | ((with_reducible refine Zm8 ?_); intro e; (try rw[e]))
    | ((fail_if_success (have:v=true:=by assumption)); (fail_if_success (have:v=false:=by assumption)); (with_reducible refine Zkm v ?_ ?_) <;> (intro f; try (exfalso; simp_all; done)))
    | (intro _; simp[-Int.ofNat_toNat,XT,ZF, *]; done)
    | (intro _; simp only[pq,reduceCtorEq]; simp[-Int.ofNat_toNat,und,List.replicate,Nat.add_assoc,upd,Ziu,updB, *]; done))):P:=t R1 k1 ⟨rfl⟩ R2 k2 ⟨rfl⟩ R3 k3 ⟨rfl⟩
instance { y}:Fc (Lconst_true=some y) (K9.Q () y):=⟨K9.q0⟩
instance {a y}:Fc (ZZ a=some y) (G42 (E42 a)=some (R42 a y)):=⟨Zyh⟩
instance {a y}:Fc (ZkE a=some y) (K79.Q a y):=⟨K79.q1⟩
instance {a y}:Fc (Zc4 a=some y) (K43.Q a y):=⟨K43.q1⟩
instance {a b y}:Fc (YD a b=some y) (K97.Q (a,b) y):=⟨K97.q2⟩
instance {a b y}:Fc (Xe a b=some y) (K119.Q (a,b) y):=⟨K119.q2⟩
instance {a b y}:Fc (Z7 a b=some y) (K80.Q (a,b) y):=⟨K80.q2⟩
instance {a b y}:Fc (Xk a b=some y) (K81.Q (a,b) y):=⟨K81.q2⟩
instance {a y}:Fc (ZeM a=some y) (K44.Q a y):=⟨K44.q1⟩
instance {a y}:Fc (Zaw a=some y) (K14.Q a y):=⟨K14.q1⟩
instance {a b y}:Fc (Zbe a b=some y) (K98.Q (a,b) y):=⟨K98.q2⟩
instance {a b y}:Fc (Zao a b=some y) (K99.Q (a,b) y):=⟨K99.q2⟩
instance {a b y}:Fc (YM a b=some y) (K56.Q (a,b) y):=⟨K56.q2⟩
instance {a y}:Fc (Xp a=some y) (K67.Q a y):=⟨K67.q1⟩
instance {a b y}:Fc (XD a b=some y) (K55.Q (a,b) y):=⟨K55.q2⟩
instance {a b y}:Fc (Ze0 a b=some y) (K108.Q (a,b) y):=⟨K108.q2⟩
instance {a y}:Fc (ZhF a=some y) (K107.Q a y):=⟨K107.q1⟩
instance {a b y}:Fc (ZgC a b=some y) (K68.Q (a,b) y):=⟨K68.q2⟩
instance {a y}:Fc (ZdC a=some y) (K35.Q a y):=⟨K35.q1⟩
instance {a y}:Fc (ZbN a=some y) (K69.Q a y):=⟨K69.q1⟩
instance {a y}:Fc (ZhJ a=some y) (K36.Q a y):=⟨K36.q1⟩
instance {a y}:Fc (ZiO a=some y) (K153.Q a y):=⟨K153.q1⟩
instance {a y}:Fc (ZiP a=some y) (K154.Q a y):=⟨K154.q1⟩
instance {a b y}:Fc (YP a b=some y) (K227.Q (a,b) y):=⟨K227.q2⟩
instance {a b y}:Fc (XH a b=some y) (K198.Q (a,b) y):=⟨K198.q2⟩
instance {a y}:Fc (Zdy a=some y) (K197.Q a y):=⟨K197.q1⟩
instance {a b y}:Fc (Zdz a b=some y) (K155.Q (a,b) y):=⟨K155.q2⟩
instance {a y}:Fc (ZhH a=some y) (K105.Q a y):=⟨K105.q1⟩
instance {a y}:Fc (ZfK a=some y) (K65.Q a y):=⟨K65.q1⟩
instance {a y}:Fc (Zcz a=some y) (K37.Q a y):=⟨K37.q1⟩
instance {a y}:Fc (XV a=some y) (K199.Q a y):=⟨K199.q1⟩
instance {a b y}:Fc (Y1 a b=some y) (K156.Q (a,b) y):=⟨K156.q2⟩
instance {a y}:Fc (Z9 a=some y) (K109.Q a y):=⟨K109.q1⟩
instance {a y}:Fc (Zcy a=some y) (K157.Q a y):=⟨K157.q1⟩
instance {a y}:Fc (ZfL a=some y) (K158.Q a y):=⟨K158.q1⟩
instance {a b y}:Fc (XI a b=some y) (K159_1.Q (a,b) y):=⟨K159_1.q2⟩
instance {a b c y}:Fc (X7 a b c=some y) (K160_2.Q (a,b,c) y):=⟨K160_2.q3⟩
instance {a b c y}:Fc (Zat a b c=some y) (K110.Q (a,b,c) y):=⟨K110.q3⟩
instance {a b y}:Fc (Zbl a b=some y) (K70.Q (a,b) y):=⟨K70.q2⟩
instance {a b y}:Fc (XJ a b=some y) (K161.Q (a,b) y):=⟨K161.q2⟩
instance {a b y}:Fc (Zic a b=some y) (K111.Q (a,b) y):=⟨K111.q2⟩
instance {a b y}:Fc (ZY a b=some y) (K200.Q (a,b) y):=⟨K200.q2⟩
instance {a b y}:Fc (ZfM a b=some y) (K163.Q (a,b) y):=⟨K163.q2⟩
instance {a b y}:Fc (Zd4 a b=some y) (K162.Q (a,b) y):=⟨K162.q2⟩
instance {a b y}:Fc (ZiQ a b=some y) (K112.Q (a,b) y):=⟨K112.q2⟩
instance {a y}:Fc (Xc a=some y) (G210 (ZjW a)=some (Zlj a y)):=⟨Zxf⟩
instance {a y}:Fc (ZcJ a=some y) (K165.Q a y):=⟨K165.q1⟩
instance {a b c y}:Fc (Zv a b c=some y) (G201_3 (Zcn (a,b,c))=some (ZeK (a,b,c) y)):=⟨ZpN⟩
instance {a b c d y}:Fc (YA a b c d=some y) (G164_4 (Zco (a,b,c,d))=some (ZeL (a,b,c,d) y)):=⟨ZuI⟩
instance {a y}:Fc (Yp a=some y) (K113_5.Q a y):=⟨K113_5.q1⟩
instance {a b c d y}:Fc (ZaP a b c d=some y) (K71.Q (a,b,c,d) y):=⟨K71.q4⟩
instance {a b c d y}:Fc (ZcR a b c d=some y) (K38.Q (a,b,c,d) y):=⟨K38.q4⟩
instance {a y}:Fc (Zby a=some y) (K11.Q a y):=⟨K11.q1⟩
instance {a b y}:Fc (Zgk a b=some y) (K171.Q (a,b) y):=⟨K171.q2⟩
instance {a b c y}:Fc (Zda a b c=some y) (K172.Q (a,b,c) y):=⟨K172.q3⟩
instance {a b c y}:Fc (ZcL a b c=some y) (K120.Q (a,b,c) y):=⟨K120.q3⟩
instance {a b c y}:Fc (Zih a b c=some y) (K121.Q (a,b,c) y):=⟨K121.q3⟩
instance {a b y}:Fc (ZcM a b=some y) (K84.Q (a,b) y):=⟨K84.q2⟩
instance {a y}:Fc (Ya a=some y) (K122_6.Q a y):=⟨K122_6.q1⟩
instance {a b c d y}:Fc (Zb4 a b c d=some y) (K85.Q (a,b,c,d) y):=⟨K85.q4⟩
instance {a b c d e y}:Fc (ZcS a b c d e=some y) (K47.Q (a,b,c,d,e) y):=⟨K47.q5⟩
instance {a b c y}:Fc (XX a b c=some y) (K18.Q (a,b,c) y):=⟨K18.q3⟩
instance {a y}:Fc (Xd a=some y) (K24.Q a y):=⟨K24.q1⟩
instance {a y}:Fc (Zh0 a=some y) (K212.Q a y):=⟨K212.q1⟩
instance {a b y}:Fc (ZfT a b=some y) (K175.Q (a,b) y):=⟨K175.q2⟩
instance {a y}:Fc (ZgD a=some y) (K146.Q a y):=⟨K146.q1⟩
instance { y}:Fc (Lref03_Initial=some y) (K147.Q () y):=⟨K147.q0⟩
instance {a b y}:Fc (YT a b=some y) (K195.Q (a,b) y):=⟨K195.q2⟩
instance {a y}:Fc (ZbZ a=some y) (K193.Q a y):=⟨K193.q1⟩
instance { y}:Fc (Lref03_constants=some y) (K194.Q () y):=⟨K194.q0⟩
instance {a b y}:Fc (Xv a b=some y) (G148 (Zg0 (a,b))=some (Zja (a,b) y)):=⟨Zsd⟩
instance {a y}:Fc (YI a=some y) (G95 (E95 a)=some (R95 a y)):=⟨Zra⟩
instance {a y}:Fc (XQ a=some y) (K51.Q a y):=⟨K51.q1⟩
instance {a b y}:Fc (Ye a b=some y) (K82.Q (a,b) y):=⟨K82.q2⟩
instance {a b y}:Fc (Yf a b=some y) (K96.Q (a,b) y):=⟨K96.q2⟩
instance {a b y}:Fc (Z2 a b=some y) (K53.Q (a,b) y):=⟨K53.q2⟩
instance {a b y}:Fc (Yw a b=some y) (K54.Q (a,b) y):=⟨K54.q2⟩
instance {a y}:Fc (Zc1 a=some y) (K23.Q a y):=⟨K23.q1⟩
instance {a b y}:Fc (YN a b=some y) (K61.Q (a,b) y):=⟨K61.q2⟩
instance {a b y}:Fc (XE a b=some y) (K60.Q (a,b) y):=⟨K60.q2⟩
instance {a b y}:Fc (Zbf a b=some y) (K211.Q (a,b) y):=⟨K211.q2⟩
instance {a y}:Fc (ZdP a=some y) (K166.Q a y):=⟨K166.q1⟩
instance {a b y}:Fc (Zai a b=some y) (K114.Q (a,b) y):=⟨K114.q2⟩
instance {a y}:Fc (Zac a=some y) (K72.Q a y):=⟨K72.q1⟩
instance {a y}:Fc (ZeN a=some y) (K176.Q a y):=⟨K176.q1⟩
instance {a b c y}:Fc (YK a b c=some y) (G125 (Zg1 (a,b,c))=some (Zjb (a,b,c) y)):=⟨Zse⟩
instance { y}:Fc (Lmade_Null=some y) (K177.Q () y):=⟨K177.q0⟩
instance {a b c y}:Fc (Zew a b c=some y) (K126.Q (a,b,c) y):=⟨K126.q3⟩
instance {a b y}:Fc (XW a b=some y) (K191.Q (a,b) y):=⟨K191.q2⟩
instance {a b y}:Fc (Xw a b=some y) (K143.Q (a,b) y):=⟨K143.q2⟩
instance {a y}:Fc (Zae a=some y) (K192.Q a y):=⟨K192.q1⟩
instance {a y}:Fc (Y9 a=some y) (K222.Q a y):=⟨K222.q1⟩
instance {a y}:Fc (Zak a=some y) (K225.Q a y):=⟨K225.q1⟩
instance {a b c y}:Fc (YE a b c=some y) (G237 (ZjX (a,b,c))=some (Zlk (a,b,c) y)):=⟨Zxg⟩
instance {a b y}:Fc (Zcu a b=some y) (K238.Q (a,b) y):=⟨K238.q2⟩
instance {a b y}:Fc (Zcv a b=some y) (K226.Q (a,b) y):=⟨K226.q2⟩
instance {a y}:Fc (Xf a=some y) (K188.Q a y):=⟨K188.q1⟩
instance {a b y}:Fc (YJ a b=some y) (K189.Q (a,b) y):=⟨K189.q2⟩
instance {a y}:Fc (Xg a=some y) (K145.Q a y):=⟨K145.q1⟩
instance {a b y}:Fc (Zbo a b=some y) (K127.Q (a,b) y):=⟨K127.q2⟩
instance {a y}:Fc (Xq a=some y) (K52.Q a y):=⟨K52.q1⟩
instance {a y}:Fc (YU a=some y) (K22.Q a y):=⟨K22.q1⟩
instance {a b y}:Fc (ZgK a b=some y) (K221.Q (a,b) y):=⟨K221.q2⟩
instance {a b c y}:Fc (Zav a b c=some y) (G249 (ZjY (a,b,c))=some (Zll (a,b,c) y)):=⟨Zxh⟩
instance {a b y}:Fc (ZgG a b=some y) (K239.Q (a,b) y):=⟨K239.q2⟩
instance {a b c y}:Fc (ZgL a b c=some y) (K223.Q (a,b,c) y):=⟨K223.q3⟩
instance {a y}:Fc (ZcT a=some y) (K224.Q a y):=⟨K224.q1⟩
instance {a b c d y}:Fc (ZdI a b c d=some y) (K187.Q (a,b,c,d) y):=⟨K187.q4⟩
instance {a b y}:Fc (Zdl a b=some y) (K139.Q (a,b) y):=⟨K139.q2⟩
instance {a y}:Fc (YV a=some y) (K190.Q a y):=⟨K190.q1⟩
instance {a b y}:Fc (Zdc a b=some y) (K140.Q (a,b) y):=⟨K140.q2⟩
instance {a y}:Fc (Zcb a=some y) (K141.Q a y):=⟨K141.q1⟩
instance {a b c d y}:Fc (ZfU a b c d=some y) (K128.Q (a,b,c,d) y):=⟨K128.q4⟩
instance {a y}:Fc (ZfN a=some y) (K178.Q a y):=⟨K178.q1⟩
instance {a y}:Fc (ZaI a=some y) (K45.Q a y):=⟨K45.q1⟩
instance {a b y}:Fc (ZfO a b=some y) (K233.Q (a,b) y):=⟨K233.q2⟩
instance {a y}:Fc (ZdE a=some y) (K213.Q a y):=⟨K213.q1⟩
instance {a y}:Fc (ZfP a=some y) (K179.Q a y):=⟨K179.q1⟩
instance {a y}:Fc (Zd6 a=some y) (K129.Q a y):=⟨K129.q1⟩
instance {a y}:Fc (Zfw a=some y) (K130.Q a y):=⟨K130.q1⟩
instance {a b c d y}:Fc (ZeF a b c d=some y) (K88.Q (a,b,c,d) y):=⟨K88.q4⟩
instance {a b y}:Fc (Y5 a b=some y) (G214 (Zg2 (a,b))=some (Zjc (a,b) y)):=⟨Zsf⟩
instance {a y}:Fc (Zdf a=some y) (K180.Q a y):=⟨K180.q1⟩
instance {a b y}:Fc (ZdF a b=some y) (K115.Q (a,b) y):=⟨K115.q2⟩
instance {a y}:Fc (ZdG a=some y) (K73.Q a y):=⟨K73.q1⟩
instance {a y}:Fc (ZfQ a=some y) (K39.Q a y):=⟨K39.q1⟩
instance {a y}:Fc (Zd3 a=some y) (K83.Q a y):=⟨K83.q1⟩
instance {a y}:Fc (X5 a=some y) (K46.Q a y):=⟨K46.q1⟩
instance {a y}:Fc (Zc5 a=some y) (K215.Q a y):=⟨K215.q1⟩
instance {a b y}:Fc (Zdg a b=some y) (K216.Q (a,b) y):=⟨K216.q2⟩
instance {a b y}:Fc (ZcO a b=some y) (K217.Q (a,b) y):=⟨K217.q2⟩
instance {a y}:Fc (Zex a=some y) (K218.Q a y):=⟨K218.q1⟩
instance {a y}:Fc (Zey a=some y) (K181.Q a y):=⟨K181.q1⟩
instance {a b y}:Fc (Zaf a b=some y) (G182 (Zg3 (a,b))=some (Zjd (a,b) y)):=⟨Zsg⟩
instance {a b c y}:Fc (Zez a b c=some y) (K131.Q (a,b,c) y):=⟨K131.q3⟩
instance {a b y}:Fc (ZcA a b=some y) (K135.Q (a,b) y):=⟨K135.q2⟩
instance {a y}:Fc (ZaO a=some y) (K183.Q a y):=⟨K183.q1⟩
instance {a b c d y}:Fc (ZeA a b c d=some y) (K132.Q (a,b,c,d) y):=⟨K132.q4⟩
instance {a b y}:Fc (ZgB a b=some y) (K184.Q (a,b) y):=⟨K184.q2⟩
instance {a b y}:Fc (Zal a b=some y) (G234 (ZhV (a,b))=some (ZjZ (a,b) y)):=⟨Zxi⟩
instance {a b c y}:Fc (ZcU a b c=some y) (K219.Q (a,b,c) y):=⟨K219.q3⟩
instance {a b c y}:Fc (ZaF a b c=some y) (K220.Q (a,b,c) y):=⟨K220.q3⟩
instance {a b c d y}:Fc (ZeG a b c d=some y) (K185.Q (a,b,c,d) y):=⟨K185.q4⟩
instance {a b c y}:Fc (ZeH a b c=some y) (K133.Q (a,b,c) y):=⟨K133.q3⟩
instance {a b y}:Fc (ZcP a b=some y) (K134.Q (a,b) y):=⟨K134.q2⟩
instance {a b y}:Fc (ZaE a b=some y) (K138.Q (a,b) y):=⟨K138.q2⟩
instance {a b y}:Fc (Zbx a b=some y) (G186 (ZhW (a,b))=some (Zj0 (a,b) y)):=⟨Zxj⟩
instance {a b c y}:Fc (ZgJ a b c=some y) (K136.Q (a,b,c) y):=⟨K136.q3⟩
instance {a y}:Fc (Zdh a=some y) (K137.Q a y):=⟨K137.q1⟩
instance {a b c y}:Fc (Zb5 a b c=some y) (K89.Q (a,b,c) y):=⟨K89.q3⟩
instance {a b y}:Fc (ZfR a b=some y) (K142.Q (a,b) y):=⟨K142.q2⟩
instance {a b c y}:Fc (Zbq a b c=some y) (K91.Q (a,b,c) y):=⟨K91.q3⟩
instance {a b c d y}:Fc (Zcc a b c d=some y) (K90.Q (a,b,c,d) y):=⟨K90.q4⟩
instance {a y}:Fc (Zii a=some y) (K144.Q a y):=⟨K144.q1⟩
instance {a y}:Fc (ZeB a=some y) (K92.Q a y):=⟨K92.q1⟩
instance {a y}:Fc (ZeC a=some y) (K93.Q a y):=⟨K93.q1⟩
instance {a y}:Fc (ZeD a=some y) (K94.Q a y):=⟨K94.q1⟩
instance {a y}:Fc (ZfS a=some y) (K50.Q a y):=⟨K50.q1⟩
instance {a b y}:Fc (ZfV a b=some y) (K49_7.Q (a,b) y):=⟨K49_7.q2⟩
instance {a b y}:Fc (ZbR a b=some y) (K20.Q (a,b) y):=⟨K20.q2⟩
instance {a b y}:Fc (Ze5 a b=some y) (K21.Q (a,b) y):=⟨K21.q2⟩
instance {a b y}:Fc (Zbw a b=some y) (K25.Q (a,b) y):=⟨K25.q2⟩
end Go.Proofs.YthpkpciceodioaaGreatDoor
