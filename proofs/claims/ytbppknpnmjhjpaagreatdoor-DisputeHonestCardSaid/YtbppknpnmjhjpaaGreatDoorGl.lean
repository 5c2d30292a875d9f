import Derived.Test.YtbppknpnmjhjpaaGreatDoorLfK
import Derived.Test.YtbppknpnmjhjpaaGreatDoorRows
import Derived.Test.YtbppknpnmjhjpaaGreatDoorAvP3
import Derived.ProofKit
import Derived.LaidMore
import Derived.OpenShut
namespace Go.Proofs.YtbppknpnmjhjpaaGreatDoor
open Go.RowKit
open Go.Av
open Go.Lc
set_option maxRecDepth 100000
set_option linter.unusedSimpArgs false
set_option linter.unusedVariables false
theorem Zp2 {H:Type}{enc:TypeId×Value→H}{P:Program}{w:World}{base:Nat}{spare:Nat→Bool}{held:Bool}{fuel n:Nat}{t e:TypeId}{k:IntKind}{l:List Int}{cs:List Value}{x:DataW H×List MemPlace}
    (ht:P.underlying t=some (.array n e)) (he:P.underlying e=some (.int k)) (hc:P.cellsOf e=1) (hct:P.cellsOf t=n) (h:DataW.trod enc P w base spare held fuel t cs=some x) (hx:x.1 = .agg (l.map fun i=>.lit (.int k i))):cs=l.map (Value.int k):=by
  obtain⟨xs,m,rfl,rfl,hl,hn,hel⟩:=DataW.trod_array ht h;simp only[DataW.agg.injEq] at hx
  have hlen:l.length=n:=by
    have:=congrArg List.length hx;simpa[hn] using this.symm
  apply List.ext_getElem?
  intro i;by_cases hi:i<n
  · have h0:=hel i hi
    rw[hc,Nat.mul_one] at h0;have hxi:xs[i]? = some (xs[i]'(by omega)):=List.getElem?_eq_getElem (by omega);rw[hxi] at h0;obtain⟨v,e1,e2,_⟩:=DataW.trod_int he h0;have e3:(xs.map (·.1))[i]? = (l.map fun i=>(DataW.lit (.int k i):DataW H))[i]? := by rw[hx]
    rw[List.getElem?_map,hxi,List.getElem?_map,List.getElem?_eq_getElem (by omega:i<l.length),e2] at e3;simp at e3
    have e4:cs[i]? = some (.int k v):=by
      have:((cs.drop i).take 1)[0]? = some (.int k v):=by rw[e1]; rfl
      simpa using this
    rw[e4,List.getElem?_map,List.getElem?_eq_getElem (by omega:i<l.length),e3];rfl
  · rw[List.getElem?_eq_none (by omega),List.getElem?_eq_none (by simp; omega)]
theorem Zrj {P:Program}{w:World}{nm:String}{g:Nat}{cs:Array Value}(hg:P.globalNamed nm=some g) (h:w.var? P nm=some cs):Zcm w g 0 cs.toList:=by
  intro j u hu;rw[Nat.zero_add,World.var?_cell hg h j];simpa using hu
theorem ZoC {S:Nat→Nat→Prop}{w:World}{k:IntKind}:∀ l:List Int,ZU S w (ints k l) (l.map (Value.int k))
  | []=>.nil
  | x :: l=>.cons (.v _ rfl (by intros; simp)) (ZoC l)
theorem gInit:Tryz.prog.globalNamed "lightclient/sha.initial" = some 0:=by kernel_rfl
theorem gK:Tryz.prog.globalNamed "lightclient/sha.k" = some 1:=by kernel_rfl
theorem tInit:(Tryz.prog.globals[0]?).map (·.type)=some 176:=by kernel_rfl
theorem tK:(Tryz.prog.globals[1]?).map (·.type)=some 219:=by kernel_rfl
abbrev laid2:List (String×DataW Unit):=[("lightclient/sha.k", Rows.laid_lightclient_sha_k),("lightclient/sha.initial", Rows.laid_lightclient_sha_initial)]
theorem kD:(Rows.laid_lightclient_sha_k:DataW Unit) = .agg (shaK.l.map fun i=>.lit (.int .u32 i)):=rfl
theorem iD:(Rows.laid_lightclient_sha_initial:DataW Unit) = .agg (shaInitial.l.map fun i=>.lit (.int .u32 i)):=rfl
theorem Zsz {w:World}{a:Addr}{v:Value}(h:w.cell? a=some v):a.block<w.heap.size:=(Zp1 h).2
theorem ZuF {W:World}(h:laidMetH Tryz.prog laid2 W):Zj3 G (fun b _=>b<W.heap.size) W:=by
  rw[MakeChecks.laidMetH_plain _ _ _ (by kernel_rfl)] at h;obtain⟨ps,⟨g0,t0,cs0,f0,p0,q0,hg0,ht0,hv0,hd0,⟨g1,t1,cs1,f1,p1,q1,hg1,ht1,hv1,hd1,_,_⟩,_⟩,_,_⟩:=h;obtain rfl:=Option.some.inj (gK.symm.trans hg0);obtain rfl:=Option.some.inj (gInit.symm.trans hg1);obtain rfl:=Option.some.inj (tK.symm.trans ht0);obtain rfl:=Option.some.inj (tInit.symm.trans ht1);have e0:=Zp2 (k:=.u32) (l:=shaK.l) Tryz.underlying219 Tryz.underlying29 (by kernel_rfl) (by kernel_rfl) hd0 kD;have e1:=Zp2 (k:=.u32) (l:=shaInitial.l) Tryz.underlying176 Tryz.underlying29 (by kernel_rfl) (by kernel_rfl) hd1 iD;have l0:=Zrj hg0 hv0;have l1:=Zrj hg1 hv1;rw[e0] at l0;rw[e1] at l1;intro g cs hg;unfold G at hg;split at hg
  · subst_vars
    injection hg with hg;subst hg;refine⟨_,ZoC shaInitial.l,fun j hj=>?_,l1⟩;have:=l1 j _ (List.getElem?_eq_getElem hj);exact Zsz this
  · split at hg
    · subst_vars
      injection hg with hg;subst hg;refine⟨_,ZoC shaK.l,fun j hj=>?_,l0⟩;have:=l0 j _ (List.getElem?_eq_getElem hj);exact Zsz this
    · cases hg
end Go.Proofs.YtbppknpnmjhjpaaGreatDoor
