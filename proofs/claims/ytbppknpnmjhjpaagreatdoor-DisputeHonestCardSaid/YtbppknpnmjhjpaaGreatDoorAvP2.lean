import Derived.Test.YtbppknpnmjhjpaaGreatDoorAvP1
import Derived.MapKept
import Derived.Carry
import Derived.Laws.BytesArg
import Derived.Lib.ConvBytes
namespace Go.Av
open Go.RowKit
set_option linter.unusedVariables false
theorem Zk7 (w:World) (need old:Nat) (e:TypeId):need≤grownCap w need old e:=by
 unfold grownCap Question.cut;exact Nat.le_add_right _ _
section
variable {P:Program}{tt:TT}{T:Tab}{G:Glob}{B:Nat}{ks:List Nat}{w0:World}{S0 S S':Nat→Nat→Prop}{bm bm':BM}{bx:Boxes}{st st':ASt}{a:Act}{w w':World}{Q:Exit→Act→World→Prop}{o:Oper}
theorem Zna {nm:Nat}{b':Box}{x:Option (Nat×Nat)}(hv:∀ b,getB bx nm=some b→b.ver<b'.ver):ZaX bm bx (fun m=>if m=nm then x else bm m) (setB bx nm b'):=by
 intro m b hb;by_cases hm:nm=m
 ·subst hm
  have:=hv b hb;exact⟨_,getB_self,by omega,fun h=>by omega⟩
 ·exact⟨b,by rw[Xa hm]; exact hb,Nat.le_refl _,fun _=>⟨rfl,rfl,by simp[Ne.symm hm]⟩⟩
theorem Zl.emptyBox (h:Zl G B ks w0 S0 S bm st a w) (nm:Nat){b':Box}(hpin:¬ Zj4 nm) (hmap:ZB nm=false) (hv:∀ b,getB st.boxes nm=some b→b.ver<b'.ver) (hels:b'.els=[]) (hrow:b'.row=true) :
  Zl G B ks w0 S0 S (fun m=>if m=nm then none else bm m) ⟨st.env,setB st.boxes nm b'⟩ a w:=by
 refine h.change (Zna hv) (fun _ _ h=>h) (fun _ _ _=>rfl) (XE.refl _ _ _) (fun _ _ h=>.inl h) h.slt (fun m b hb=>?_) (fun m m' b1 b2 k C C' h1 h2 h3 h4=>?_)
 ·rw[getB_set] at hb
  split at hb
  ·rename_i hm
   subst hm;simp at hb
   subst hb;refine .inr ⟨fun _=>by simp[hels],fun _=>by simp[hels,ZH],?_⟩;simp[hels,hrow,hmap,hpin]
  ·rename_i hm
   exact .inl ⟨hb,by simp[Ne.symm hm],fun _ _ _=>⟨rfl,fun _ h=>h⟩⟩
 ·by_cases hm:m=nm
  ·simp[hm] at h3
  ·by_cases hm':m'=nm
   ·simp[hm'] at h4
   ·simp only[hm,hm',if_false] at h3 h4
    rw[Xa (Ne.symm hm)] at h1;rw[Xa (Ne.symm hm')] at h2;exact h.inj m m' b1 b2 k C C' h1 h2 h3 h4
theorem Zk8 {d e:Nat}{x:Option Addr}{b:Box}(hmap:ZB d=false) (hb:b.e=e) (hr:b.row=true) (hbm:bm d=none) (hg:getB bx d=some b):ZW S w bm bx (.ms d b.ver 0 0 e) (.slice x 0 0):=by
 refine .ms _ _ _ _ _ _ _ hmap (Nat.le_refl _) (Nat.zero_le _) (fun h=>by omega) ⟨b,hg,Nat.le_refl _,fun _=>⟨hb,hr,?_⟩⟩;unfold Loc;rw[hbm];exact⟨rfl,rfl⟩
theorem Zl.regrow (h:Zl G B ks w0 S0 S bm st a w) (nm:Nat){e C:Nat}{els:List (List Cell)}{arr:Array Value}{Ty:TypeId}{b':Box}(hnb:ZdG w w' arr Ty) (hv:∀ b,getB st.boxes nm=some b→b.ver<b'.ver) (hes:∀ l∈b'.els,l.length=b'.e) (hC:b'.els.length≤C) (hcm:C≤maxLen)
  (hsz:C * b'.e≤arr.size) (hpu:b'.frz=true→ZH b'.els=true) (hone:b'.row=false→C=1) (hn:okN nm=true) (hrep:∀ (i:Nat) c v,b'.els.flatten[i]? = some c→arr[i]? = some v→ZW S w bm st.boxes c v) :
  Sim G B ks w0 S0 ⟨st.env,setB st.boxes nm b'⟩ a w'∧∃ S',Zl G B ks w0 S0 S' (fun m=>if m=nm then some (w.heap.size,C) else bm m) ⟨st.env,setB st.boxes nm b'⟩ a w' := by
 have hlt:w.heap.size<w'.heap.size:=by rw[hnb.size]; omega
 have hS0:∀ o,¬ S w.heap.size o:=fun o hs=>Nat.lt_irrefl _ (h.slt _ _ hs)
 have key:∃ S',Zl G B ks w0 S0 S' (fun m=>if m=nm then some (w.heap.size,C) else bm m) ⟨st.env,setB st.boxes nm b'⟩ a w' := by
  refine⟨fun k o=>S k o∨(b'.frz=true∧k=w.heap.size∧o<b'.els.flatten.length),?_⟩;refine h.box1 nm b' w.heap.size C (fun b hb=>⟨by have:=hv b hb; omega,fun h=>by have:=hv b hb; omega⟩) (.inl (Nat.le_refl _)) ⟨hnb.os,hnb.tape,hnb.output,by omega,fun arr T h=>absurd (Zaa h) (Nat.lt_irrefl _)⟩ (fun b hb _=>hnb.old b hb) (fun _ _ h=>.inl h) (fun o hs=>absurd hs (hS0 o)) (fun b o hs=>hs.imp id fun hs=>hs.2.1) hlt ?_;have hmap:ZB nm=false:=ZbO hn;refine⟨fun _=>hes,hpu,?_⟩;simp only[if_true];refine⟨.inl ⟨ZcA hn,.inl h.base⟩,⟨fun _=>⟨arr,Ty,hnb.new,hsz,fun i c v hc hv'=>(hrep i c v hc hv').mono (fun _ _ h=>.inl h) (fun b o hs=>World.cell?_of_block (a:=⟨b,o,none⟩) (hnb.old b (h.slt _ _ hs))) (Zna hv)⟩,fun hm=>by rw[hmap] at hm; cases hm⟩,fun _=>hC,hcm,fun o hs=>?_,fun hf o ho=>.inr ⟨hf,rfl,ho⟩,hone⟩;rcases hs with hs | hs
  ·exact absurd hs (hS0 o)
  ·exact⟨hs.1,hs.2.2⟩
 exact⟨let ⟨S',h'⟩:=key; ⟨S',_,h'⟩,key⟩
theorem ZqX {cs:List Cell}{vs:List Value}(h:ZU S w cs vs):Yd cs=true:=by
 induction h with
 | nil=>rfl
 | cons h _ ih=>simp[Yd,h.pure]; simpa[Yd] using ih
theorem Zun {els:List (List Cell)}(h:Yd els.flatten=true):ZH els=true:=by
 simp only[ZH,Yd,List.all_eq_true,List.mem_flatten] at *;intro l hl x hx;exact h x ⟨l,hl,hx⟩
theorem Zpp {n C b:Nat}(h:n * b≤140737488355328) (hc:C<n):Builtin.nextslicecap n C * b≤281474976710656:=by
 have h1:Builtin.nextslicecap n C≤2 * n:=by
  unfold Builtin.nextslicecap;split
  ·omega
  ·split
   ·omega
   ·have grow:∀ r c,c≤n+n→c<n→Builtin.growBy n r c≤n+n∨True:=fun _ _ _ _=>.inr trivial
    have key:∀ r c,256≤c→c≤2 * n→(c<n→True)→Builtin.growBy n r c≤2 * n:=by
     intro r;induction r with
     | zero=>intro c _ h _; exact h
     | succ r ih =>
      intro c h256 hc2 _;simp only[Builtin.growBy];split
      ·exact hc2
      ·exact ih _ (by omega) (by omega) (fun _=>trivial)
    exact key 4 C (by omega) (by omega) (fun _=>trivial)
 calc Builtin.nextslicecap n C * b≤2 * n * b:=Nat.mul_le_mul_right _ h1
  _=2 * (n * b):=by rw[Nat.mul_assoc]
  _≤281474976710656:=by omega
theorem Zhj {z:Array Value}{n s:Nat}(hz:z.size=s):(Builtin.zeroCells z n).size=n * s:=by simp[Builtin.zeroCells,hz]
theorem Zpq {row:List Value}{z:Array Value}{i:Nat}{v:Value}(hi:i<row.length) (h:(row.toArray++z)[i]? = some v):row[i]? = some v:=by
 rw[Array.getElem?_append_left (by simpa using hi)] at h;simpa using h
theorem Zl.appIn (h:Zl G B ks w0 S0 S bm st a w){nm k c L:Nat}{b:Box}{els':List (List Cell)}{arr:Array Value}{Ty:TypeId}{news:List Value}(hb:getB st.boxes nm=some b) (hbm:bm nm=some (k,c)) (ha1:w.heap[k]? = some (.cells arr Ty (0,0)))
  (hmap:ZB nm=false) (hfn0:b.els.flatten.length=L) (hB:ZjW S w bm st.boxes B ks nm k c b) (hes2:∀ l∈b.els++els',l.length=b.e) (hpu2:b.frz=true→ZH (b.els++els')=true)
  (hbump:∀ b0,getB st.boxes nm=some b0→b0.ver<(b.ver+1)) (hroom:b.els.length+els'.length≤c) (hrep:ZU S w els'.flatten news)
  (hw':w.setRow k (arr.toList.take L++news++arr.toList.drop (L+news.length)).toArray=w') (hle:L+news.length≤arr.size) :
  Zl G B ks w0 S0 (fun k' o=>S k' o∨(b.frz=true∧k'=k∧o<(b.els++els').flatten.length)) (fun m=>if m=nm then some (k,c) else bm m) ⟨st.env,setB st.boxes nm { b with ver:=b.ver+1,els:=b.els++els' }⟩ a w' := by
 have hblk':w'.heap[k]? = some (.cells (arr.toList.take L++news++arr.toList.drop (L+news.length)).toArray Ty (0,0)):=by rw[← hw']; exact setRow_heap w k arr _ Ty _ ha1
 have hother:∀ b',b'≠k→w'.heap[b']? = w.heap[b']? := fun b' hb'=>by rw[← hw']; exact setRow_other w k b' _ hb'
 have hold:∀ q,q<L→w'.cell? ⟨k,q,none⟩=w.cell? ⟨k,q,none⟩:=by
  intro q hq;simp only[World.cell?,hblk',ha1];have:q<arr.size:=by omega
  simp[List.getElem?_append,this,hq]
  omega
 have hSk:∀ o,S k o→w'.cell? ⟨k,o,none⟩=w.cell? ⟨k,o,none⟩:=fun o hs=>hold o (by have:=(hB.free o hs).2; omega)
 have hcellS:∀ b' o,S b' o→w'.cell? ⟨b',o,none⟩=w.cell? ⟨b',o,none⟩:=fun b' o hs=>by
  by_cases hbk:b'=k
  ·subst hbk; exact hSk o hs
  ·exact World.cell?_of_block (a:=⟨b',o,none⟩) (hother b' hbk)
 have hfl2:(b.els++els').flatten.length=L+news.length:=by rw[List.flatten_append,List.length_append,hfn0,hrep.length]
 obtain⟨arr',Ty',hb1,hb2,hb3⟩:=hB.blk hmap;rw[ha1] at hb1;injection hb1 with hb1;injection hb1 with hb1 hb4 _;subst hb1 hb4
 refine h.box1 nm { b with ver:=b.ver+1,els:=b.els++els' } k c (fun b0 h0=>⟨Nat.le_of_lt (hbump b0 h0),fun hh=>by have:=hbump b0 h0; simp only at hh; omega⟩) (.inr ⟨c,b,hbm,hb⟩) ⟨by rw[← hw']; rfl,by rw[← hw']; rfl,by rw[← hw']; rfl,by rw[← hw']; simp[World.setRow],fun arr0 T0 h0=>by
   rw[ha1] at h0;injection h0 with h0;injection h0 with h0 _ _;subst h0
   exact⟨_,_,hblk',by simp; omega⟩⟩ (fun b' _ hb'=>hother b' hb') (fun _ _ h=>.inl h) hSk (fun b' o hs=>hs.imp id fun hs=>hs.2.1) (Zaa hblk') ?_
 ·refine⟨fun _=>hes2,hpu2,?_⟩
  simp only[if_true];refine⟨hB.base,⟨fun _=>⟨_,Ty,hblk',?_,fun i cc v hc hv=>?_⟩,fun hm=>by rw[hmap] at hm; cases hm⟩,fun _=>by simpa using hroom,hB.cap,fun o hs=>?_,fun hf o ho=>.inr ⟨hf,rfl,ho⟩,hB.one⟩
  ·simp
   omega
  ·refine ZW.mono ?_ (fun _ _ h=>.inl h) hcellS (Zna hbump)
   have hi2:=Zm hc;rw[hfl2] at hi2;rw[List.flatten_append,List.getElem?_append,hfn0] at hc;have hm:min L arr.size=L:=by omega
   simp only[List.getElem?_toArray,List.getElem?_append,List.length_append,List.length_take,Array.length_toList,hm] at hv;rw[if_pos hi2] at hv;split at hc
   ·rename_i hlt
    rw[if_pos hlt,List.getElem?_take_of_lt hlt] at hv;exact hb3 i cc v hc (by simpa using hv)
   ·rename_i hlt
    rw[if_neg hlt] at hv;obtain⟨v',h1,h2⟩:=hrep.get hc;rw[hv] at h1;injection h1 with h1;subst h1;exact .pure h2
  ·rcases hs with hs | hs
   ·have h1:=hB.free o hs
    refine⟨h1.1,?_⟩;show o<(b.els++els').flatten.length
    rw[hfl2];have h3:=h1.2;omega
   ·exact⟨hs.1,hs.2.2⟩
theorem Zl.shrink (h:Zl G B ks w0 S0 S bm st a w){nm:Nat}{b:Box}(hmap:ZB nm=false) (hb:getB st.boxes nm=some b) (hf:b.frz=false) (hrow:b.row=true) (n:Nat) :
  Zl G B ks w0 S0 S bm ⟨st.env,setB st.boxes nm { b with els:=b.els.take n }⟩ a w:=by
 have hrefs:ZaX bm st.boxes bm (setB st.boxes nm { b with els:=b.els.take n }):=by
  intro m b0 hb0;by_cases hm:nm=m
  ·subst hm
   rw[hb] at hb0;injection hb0 with hb0;subst hb0;exact⟨_,getB_self,Nat.le_refl _,fun _=>⟨rfl,rfl,rfl⟩⟩
  ·exact⟨b0,by rw[Xa hm]; exact hb0,Nat.le_refl _,fun _=>⟨rfl,rfl,rfl⟩⟩
 obtain⟨hes,hpu,hB⟩:=h.boxes nm b hb;have hes':∀ l∈b.els.take n,l.length=b.e:=fun l hl=>hes hmap l (List.mem_of_mem_take hl)
 refine h.change hrefs (fun _ _ h=>h) (fun _ _ _=>rfl) (XE.refl _ _ _) (fun _ _ h=>.inl h) h.slt (fun m b1 hb1=>?_) (fun m m' b1 b2 k C C' h1 h2 h3 h4=>?_)
 ·rw[getB_set] at hb1
  split at hb1
  ·rename_i hm
   subst hm;simp at hb1
   subst hb1;refine .inr ⟨fun _=>hes',fun hf'=>by simp only at hf'; rw[hf] at hf'; simp at hf',?_⟩;cases hbm:bm nm with
   | none=>rw[hbm] at hB; exact⟨by simp[hB.1],hB.2⟩
   | some kc =>
    obtain⟨k,C⟩:=kc;rw[hbm] at hB;refine⟨hB.base,⟨fun _=>?_,fun hm=>by rw[hmap] at hm; cases hm⟩,fun _=>?_,hB.cap,fun o hs=>?_,fun hf'=>by simp only at hf'; rw[hf] at hf'; simp at hf',fun hr=>by simp only at hr; rw[hrow] at hr; cases hr⟩
    ·obtain⟨arr,Ty,a1,a2,a3⟩:=hB.blk hmap
     refine⟨arr,Ty,a1,a2,fun i c v hc hv=>(a3 i c v ?_ hv).mono (fun _ _ h=>h) (fun _ _ _=>rfl) hrefs⟩;have hi:=Zm hc;have:b.els.flatten=(b.els.take n).flatten++(b.els.drop n).flatten:=by rw[← List.flatten_append,List.take_append_drop]
     rw[this,List.getElem?_append_left hi];exact hc
    ·have:=hB.room hmap
     simp only[List.length_take];omega
    ·have:=(hB.free o hs).1
     rw[hf] at this;simp at this
  ·exact .inl ⟨hb1,rfl,fun _ _ _=>⟨rfl,fun _ h=>h⟩⟩
 ·have key:∀ m b',getB (setB st.boxes nm { b with els:=b.els.take n }) m=some b'→∃ b0,getB st.boxes m=some b0:=by
   intro m b' h';rw[getB_set] at h';split at h'
   ·rename_i hm; subst hm; exact⟨b,hb⟩
   ·exact⟨_,h'⟩
  obtain⟨c1,g1⟩:=key _ _ h1;obtain⟨c2,g2⟩:=key _ _ h2;exact h.inj m m' c1 c2 k C C' g1 g2 h3 h4
theorem Znb {n:Nat}{els:List (List Cell)}(h:n≤els.length):Zk0 n els=els.take n:=by
 unfold Zk0;split
 ·rename_i hn
  rw[hn,List.take_length]
 ·rfl
set_option maxHeartbeats 4000000 in
theorem Zuo (htt:∀ t i,tt t=some i→Z0 P t=some i) (h:Zl G B ks w0 S0 S bm st a w){t t':TypeId}{x y:Operand}{u:Upd}
  (ho:o.op = .call { callee:=.builtin .append,args:=#[x,y],argTypes:=#[t,t'] }) (hu:eff tt T G o st.get st.boxes=some u):o.wp P a w (Sim G B ks w0 S0 (u.app st)) Q:=by
 unfold eff at hu;rw[ho] at hu;simp only at hu;split at hu
 ·rename_i i i' p q d hi hi' hp hq hd
  split at hu
  ·rename_i e els' hk htl
   split at hu
   ·rename_i j hj
    split at hu
    ·rename_i hcond
     obtain⟨hsz,hzl⟩:=hcond;split at hu <;> simp at hu
     rename_i u0 hu0;subst hu;show o.wp P a w (Sim G B ks w0 S0 ⟨Y5 st.env u0.slots,ZZ st.boxes u0.boxes⟩) Q
     have hut:=(Zn (htt _ _ hi)).slice hk;obtain⟨info,dd,z,k1,k2,k3,k4,k5,k6,k7,_⟩:=(Zn (htt _ _ hj)).ex;have hzs:z.cells.size=j.size:=by rw[← Array.length_toList,zcs_vals k6]; simpa using hzl
     have hex:∀ {v w'},(Builtin.append_ #[t,t'] o.type #[a.eval x,a.eval y]).run P w = .ok v w'→(execOp a.eval o).run P w = .ok (.value v) w' := by
      intro v w' hv;simp only[execOp,ho,resolve,Sem.run_bind,Sem.run_pure,Result.andThen_ok,invoke,builtin];simp[hv]
     unfold Zik at hu0;split at hu0
     ·rename_i els0
      split at hu0 <;> simp at hu0
      rename_i hc;obtain⟨hes,hby,hml,hdn⟩:=hc;subst hu0;obtain⟨news,hsrc,hrep⟩:=ZnO (P:=P) htt h hi' htl hes hsz (h.eval hq);have hxv:=(h.evalC hp).pureC rfl;generalize a.eval y=vy at hsrc hex;generalize a.eval x=vx at hxv hex;cases hxv with
      | nil ax =>
       rcases Nat.eq_zero_or_pos els'.length with h0 | h0
       ·have he:els'=[]:=List.length_eq_zero_iff.1 h0
        subst he;have hr:=Zm9 (P:=P) (ty:=o.type) hut k1 (by rw[k4]; exact hsrc) ax (n:=0) (c:=0) (Nat.le_refl _);have hs:=h.emptyBox d (Zug (by omega)) (Zdn (by omega)) (b' := ⟨Zr st.boxes d,j.size,[],false,true⟩) (fun b hb=>by simp[Zr,hb]) rfl rfl;refine Yi (hex hr) ⟨S,(fun m=>if m=d then none else bm m),?_⟩;rw[hd];exact hs.put d (p:=.one (.ms d (Zr st.boxes d) 0 0 j.size)) (v:=.slice ax 0 0) (.base (.one (Zk8 (b:=⟨Zr st.boxes d,j.size,[],false,true⟩) (Zdn (Nat.lt_of_lt_of_le hdn (by decide))) rfl rfl (by simp) getB_self)))
       ·have hr:=Zk6 (P:=P) (ty:=o.type) hut k1 k3 (by rw[k4]; exact hsrc) (x:=ax) (sLen:=0) (sCap:=0) (olds:=[]) (by cases ax <;> simp[Builtin.firstCells,loadCells,loadCellsFrom]) (by omega) (by unfold maxLen at hml; omega) (by rw[k7]; exact Zpp (by simpa using hby) (by omega))
        simp only[Nat.zero_add,List.nil_append] at hr;have hcap:=Zk7 w els'.length 0 e;have hcm:grownCap w els'.length 0 e≤maxLen:=grownCap_le_maxLen w _ _ _ hml;have hnl:news.length=els'.length * j.size:=hsrc.hl
        have hs:=h.newBox (rw' := true) d (e:=j.size) (C:=grownCap w els'.length 0 e) (els:=els') (ZdG.drew w (news.toArray++Builtin.zeroCells z.cells (grownCap w els'.length 0 e-els'.length)) e) hes hcap hcm (by
         rw[Array.size_append,Zhj hzs,List.size_toArray,hnl,← Nat.add_mul,Nat.add_sub_cancel' hcap]; exact Nat.le_refl _) (fun h=>by simp at h) hdn (fun i c v hc hv=>by
         have hi2:=Zm hc;rw[Z3 hes] at hi2;have hv:=Zpq (by rw[hnl]; exact hi2) hv;obtain⟨v',h1,h2⟩:=hrep.get hc;rw[hv] at h1;injection h1 with h1;subst h1
         exact .pure h2)
        refine Yi (hex hr) ⟨S,(fun m=>if m=d then some (w.heap.size,grownCap w els'.length 0 e) else bm m),?_⟩;rw[hd];exact hs.put d (p:=.one (.ms d (Zr st.boxes d) 0 els'.length j.size)) (v:=.slice (some ⟨w.heap.size,0,none⟩) els'.length (grownCap w els'.length 0 e)) (.base (.one (Zl4 (v:=undef) (b:=⟨Zr st.boxes d,j.size,els',false,true⟩) (Zdn (Nat.lt_of_lt_of_le hdn (by decide))) rfl rfl hcap hcm (by simp) getB_self)))
     ·rename_i nm ver n e1
      split at hu0
      ·rename_i b hb
       split at hu0 <;> simp at hu0
       rename_i hc;obtain⟨hver,hrow,hn0,hcf,he1,hbe,hes,hby,hml,hfn⟩:=hc;subst hu0 hver he1;obtain⟨news,hsrc,hrep⟩:=ZnO (P:=P) htt h hi' htl hes hsz (h.eval hq);have hxv:=h.evalC hp;generalize a.eval y=vy at hsrc hex;generalize a.eval x=vx at hxv hex;have hmap:ZB nm=false:=ZbO hfn;have hnl:news.length=els'.length * j.size:=hsrc.hl
       have key:∀ (st:ASt) (b:Box),Zl G B ks w0 S0 S bm st a w→getB st.boxes nm=some b→b.row=true→n=b.els.length→b.e=j.size→ZW S w bm st.boxes (.ms nm b.ver 0 n j.size) vx →
         o.wp P a w (Sim G B ks w0 S0 ⟨Y5 st.env [(d,.one (.ms nm (b.ver+1) 0 (n+els'.length) j.size))],setB st.boxes nm { b with ver:=b.ver+1,els:=b.els++els' }⟩) Q:=?_
       ·by_cases hnn:n=b.els.length
        ·have:=key st b h hb hrow hnn hbe hxv
         rw[show Zk0 n b.els=b.els from by simp[Zk0,hnn]];exact this
        ·have hf:b.frz=false:=hcf.resolve_left hnn
         have h1:=h.shrink hmap hb hf hrow n
         have hrefs:ZaX bm st.boxes bm (setB st.boxes nm { b with els:=b.els.take n }):=by
          intro m b0 hb0;by_cases hm:nm=m
          ·subst hm
           rw[hb] at hb0;injection hb0 with hb0;subst hb0;exact⟨_,getB_self,Nat.le_refl _,fun _=>⟨rfl,rfl,rfl⟩⟩
          ·exact⟨b0,by rw[Xa hm]; exact hb0,Nat.le_refl _,fun _=>⟨rfl,rfl,rfl⟩⟩
         have:=key _ _ h1 getB_self hrow (by simp only[List.length_take]; omega) hbe (hxv.mono (fun _ _ h=>h) (fun _ _ _=>rfl) hrefs);simp only[ZvM] at this;rw[Znb hn0];exact this
       clear hxv hn0 hcf hrow hbe hb hp hq hi hi' htl h;clear b;intro st b h hb hrow hn hbe hxv;obtain⟨hes0,hpu0,hB⟩:=h.boxes nm b hb;have hes0:=hes0 hmap
       have hes2:∀ l∈b.els++els',l.length=b.e:=by
        intro l hl;rcases List.mem_append.1 hl with hl | hl
        ·exact hes0 l hl
        ·rw[hbe]; exact hes l hl
       have hpu2:b.frz=true→ZH (b.els++els')=true:=by
        intro hf;have h1:=hpu0 hf;have h2:=Zun (ZqX hrep);simp only[ZH,List.all_append,Bool.and_eq_true] at *;exact⟨h1,h2⟩
       have hbump:∀ b0,getB st.boxes nm=some b0→b0.ver<(b.ver+1):=fun b0 h0=>by rw[hb] at h0; injection h0 with h0; subst h0; omega
       cases hxv with
       | pure hxv=>cases hxv
       | ms _ _ _ _ _ xa c hmap hnc hcm hxk hro =>
        obtain⟨b0,q1,q2,q3⟩:=hro;rw[hb] at q1;injection q1 with q1;subst q1;obtain⟨_,_,hloc⟩:=q3 rfl;unfold Loc at hloc;cases hbm:bm nm with
        | none =>
         rw[hbm] at hloc hB;simp only at hloc hB;obtain⟨hn0,hc0⟩:=hloc;have hb0:b.els=[]:=hB.1;subst hc0;rcases Nat.eq_zero_or_pos els'.length with h0 | h0
         ·have he:els'=[]:=List.length_eq_zero_iff.1 h0
          subst he;have hr:=Zm9 (P:=P) (ty:=o.type) hut k1 (by rw[k4]; exact hsrc) xa (n:=n) (c:=0) hnc;have hs:=h.emptyBox nm (ZcA hfn) hmap (b' := { b with ver:=b.ver+1,els:=b.els++[] }) hbump (by simp[hb0]) hrow;refine Yi (hex hr) ⟨S,(fun m=>if m=nm then none else bm m),?_⟩;rw[hd,hn0];have:=hs.put d (p:=.one (.ms nm (b.ver+1) 0 0 b.e)) (v:=.slice xa 0 0) (.base (.one (Zk8 (b:={ b with ver:=b.ver+1,els:=b.els++[] }) hmap rfl hrow (by simp) getB_self)));rw[← hbe];exact this
         ·have hr:=Zk6 (P:=P) (ty:=o.type) hut k1 k3 (by rw[k4]; exact hsrc) (x:=xa) (sLen:=n) (sCap:=0) (olds:=[]) (by subst hn0; cases xa <;> simp[Builtin.firstCells,loadCells,loadCellsFrom]) (by omega) (by unfold maxLen at hml; omega) (by rw[k7]; exact Zpp hby (by omega))
          simp only[List.nil_append] at hr;have hcap:=Zk7 w (n+els'.length) 0 e;have hcm:grownCap w (n+els'.length) 0 e≤maxLen:=grownCap_le_maxLen w _ _ _ hml
          obtain⟨_,S',hs⟩:=h.regrow nm (b' := { b with ver:=b.ver+1,els:=b.els++els' }) (e:=0) (els:=[]) (C:=grownCap w (n+els'.length) 0 e) (ZdG.drew w (news.toArray++Builtin.zeroCells z.cells (grownCap w (n+els'.length) 0 e-(n+els'.length))) e) hbump hes2 (by simp; rw[← hn]; exact hcap) hcm (by
           rw[Array.size_append,Zhj hzs,List.size_toArray,hnl,hbe,← Nat.add_mul];have:els'.length+(grownCap w (n+els'.length) 0 e-(n+els'.length))=grownCap w (n+els'.length) 0 e:=by omega
           rw[this]; exact Nat.le_refl _) hpu2 (fun h=>by rw[hrow] at h; simp at h) hfn (fun i c v hc hv=>by
           have hc:els'.flatten[i]? = some c:=by simpa[hb0] using hc
           have hi2:=Zm hc;rw[Z3 hes] at hi2;have hv:=Zpq (by rw[hnl]; exact hi2) hv;obtain⟨v',h1,h2⟩:=hrep.get hc;rw[hv] at h1;injection h1 with h1;subst h1
           exact .pure h2)
          refine Yi (hex hr) ⟨S',(fun m=>if m=nm then some (w.heap.size,grownCap w (n+els'.length) 0 e) else bm m),?_⟩;rw[hd];have:=hs.put d (p:=.one (.ms nm (b.ver+1) 0 (n+els'.length) b.e)) (v:=.slice (some ⟨w.heap.size,0,none⟩) (n+els'.length) (grownCap w (n+els'.length) 0 e)) (.base (.one (Zl4 (v:=undef) (b:={ b with ver:=b.ver+1,els:=b.els++els' }) hmap rfl hrow hcap hcm (by simp) getB_self)));rw[← hbe];exact this
        | some kc =>
         obtain⟨k,C⟩:=kc;rw[hbm] at hloc hB;simp only at hloc hB;obtain⟨rfl,hcC⟩:=hloc (.inr trivial);simp only[Nat.sub_zero] at hcC;obtain⟨arr,Ty,ha1,ha2,ha3⟩:=hB.blk hmap;have hfl0:=Z3 hes0;by_cases hroom:n+els'.length≤c
         ·have hle:n * j.size+news.length≤arr.size:=by
           have:(n+els'.length) * j.size≤C * j.size:=Nat.mul_le_mul_right _ (Nat.le_trans hroom hcC);rw[Nat.add_mul] at this;rw[hbe] at ha2;omega
          have hr:=Ztf (P:=P) (ty:=o.type) hut k1 (by rw[k4]; exact hsrc) (g:=k) (off:=0 * b.e) (sLen:=n) (sCap:=c) ha1 hrep.ones hroom (by rw[k4]; simpa using hle);rw[k4] at hr;simp only[Nat.zero_mul,Nat.zero_add] at hr;generalize hw':w.setRow k (arr.toList.take (n * j.size)++news++arr.toList.drop (n * j.size+news.length)).toArray=w' at hr;have hfn0:b.els.flatten.length=n * j.size:=by rw[hfl0,hn,hbe]
          have hs:=h.appIn (els' := els') (news:=news) hb hbm ha1 hmap hfn0 hB hes2 hpu2 hbump (by rw[← hn]; exact Nat.le_trans hroom hcC) hrep hw' (by omega);refine Yi (hex (by simpa using hr)) ⟨(fun k' o=>S k' o∨(b.frz=true∧k'=k∧o<(b.els++els').flatten.length)),(fun m=>if m=nm then some (k,C) else bm m),?_⟩
          ·rw[hd]
           have:=hs.put d (p:=.one (.ms nm (b.ver+1) 0 (n+els'.length) b.e)) (v:=.slice (some ⟨k,0,none⟩) (n+els'.length) c) (.base (.one (Zsr (v:=undef) (b:={ b with ver:=b.ver+1,els:=b.els++els' }) hmap rfl hrow hroom hcC hcm (by simp) getB_self)));rw[← hbe];exact this
         ·obtain⟨vs0,hl0,hl1⟩:∃ olds:List Value,Zcm w k 0 olds∧Zk (ZW S w bm st.boxes) b.els.flatten olds:=by
           refine⟨arr.toList.take b.els.flatten.length,fun q v hv=>?_,Zk.of_get ?_ fun q c v hc hv=>?_⟩
           ·have hq:=Zm hv
            simp[-List.length_flatten] at hq
            rw[List.getElem?_take_of_lt (by omega)] at hv;rw[Nat.zero_add];simp only[World.cell?,ha1];simpa using hv
           ·have:b.els.flatten.length≤arr.size:=by rw[hfl0]; exact Nat.le_trans (Nat.mul_le_mul_right _ (hB.room hmap)) ha2
            simp[-List.length_flatten]
            omega
           ·have hq:=Zm hc
            rw[List.getElem?_take_of_lt hq] at hv;exact ha3 q c v hc (by simpa using hv)
          have holl:vs0.length=n * j.size:=by rw[← hl1.length,hfl0,hn,hbe]
          have hold:(Builtin.firstCells info.size n (.slice (some ⟨k,0 * j.size,none⟩) n c)).run P w.drew = .ok vs0.toArray w.drew:=by
           have:=hl0.drew.load (P:=P);rw[holl] at this;simp[Builtin.firstCells,k4,this]
          have hr:=Zk6 (P:=P) (ty:=o.type) hut k1 k3 (by rw[k4]; exact hsrc) hold (by omega) (by unfold maxLen at hml; omega) (by rw[k7]; exact Zpp hby (by omega));have hcap:=Zk7 w (n+els'.length) c e;have hcm':grownCap w (n+els'.length) c e≤maxLen:=grownCap_le_maxLen w _ _ _ hml
          obtain⟨_,S',hs⟩:=h.regrow nm (b' := { b with ver:=b.ver+1,els:=b.els++els' }) (e:=0) (els:=[]) (C:=grownCap w (n+els'.length) c e) (ZdG.drew w ((vs0++news).toArray++Builtin.zeroCells z.cells (grownCap w (n+els'.length) c e-(n+els'.length))) e) hbump hes2 (by simp; rw[← hn]; exact hcap) hcm' (by
           rw[Array.size_append,Zhj hzs,List.size_toArray,List.length_append,holl,hnl,hbe,← Nat.add_mul,← Nat.add_mul];have:n+els'.length+(grownCap w (n+els'.length) c e-(n+els'.length))=grownCap w (n+els'.length) c e:=by omega
           rw[this]; exact Nat.le_refl _) hpu2 (fun h=>by rw[hrow] at h; simp at h) hfn (fun i cc v hc hv=>by
           have hall:Zk (ZW S w bm st.boxes) (b.els++els').flatten (vs0++news):=by rw[List.flatten_append]; exact Zk.append hl1 (ZU.toM hrep)
           have hi2:=Zm hc;have hv:=Zpq (by have:=hall.length; simp only[] at hi2; omega) hv;obtain⟨v',h1,h2⟩:=hall.get hc;rw[hv] at h1;injection h1 with h1;subst h1
           exact h2)
          refine Yi (hex hr) ⟨S',(fun m=>if m=nm then some (w.heap.size,grownCap w (n+els'.length) c e) else bm m),?_⟩;rw[hd];have:=hs.put d (p:=.one (.ms nm (b.ver+1) 0 (n+els'.length) b.e)) (v:=.slice (some ⟨w.heap.size,0,none⟩) (n+els'.length) (grownCap w (n+els'.length) c e)) (.base (.one (Zl4 (v:=undef) (b:={ b with ver:=b.ver+1,els:=b.els++els' }) hmap rfl hrow hcap hcm' (by simp) getB_self)));rw[← hbe];exact this
      ·simp at hu0
     ·simp at hu0
    ·simp at hu
   ·simp at hu
  ·simp at hu
 ·simp at hu
end
section
variable {P:Program}{tt:TT}{T:Tab}{G:Glob}{B:Nat}{ks:List Nat}{w0:World}{S0 S S':Nat→Nat→Prop}{bm bm':BM}{bx:Boxes}{st st':ASt}{a:Act}{w w':World}{Q:Exit→Act→World→Prop}{o:Oper}
theorem Zod {els ds:List (List Cell)}{e i:Nat}(hes:∀ l∈els,l.length=e) (hds:∀ l∈ds,l.length=e) (hle:i+ds.length≤els.length):(els.take i++ds++els.drop (i+ds.length)).flatten=ZE els.flatten (i * e) ds.flatten:=by
 have e1:els.flatten=(els.take i).flatten++(els.drop i).flatten:=by rw[← List.flatten_append,List.take_append_drop]
 have hA:(els.take i).flatten.length=i * e:=by rw[Z3 fun l hl=>hes l (List.mem_of_mem_take hl)]; congr 1; simp; omega
 have e2:(els.drop i).flatten=((els.drop i).take ds.length).flatten++(els.drop (i+ds.length)).flatten:=by rw[← List.drop_drop,← List.flatten_append,List.take_append_drop]
 have hB:((els.drop i).take ds.length).flatten.length=ds.flatten.length:=by
  rw[Z3 fun l hl=>hes l (List.mem_of_mem_drop (List.mem_of_mem_take hl)),Z3 hds]
  congr 1
  simp
  omega
 unfold ZE;rw[List.flatten_append,List.flatten_append]
 congr 1
 ·congr 1
  rw[e1,List.take_left' hA]
 ·have:els.flatten.drop (i * e+ds.flatten.length)=(els.drop (i+ds.length)).flatten:=by
   rw[← List.drop_drop]
   conv=>lhs; rw[e1]
   rw[List.drop_left' hA,e2,List.drop_left' hB]
  exact this.symm
theorem ZpR {els:List (List Cell)}{s m:Nat}(hes:∀ l∈els,l.length=s) (hm:m≤els.length):(els.take m).flatten=els.flatten.take (m * s):=by
 have:=Zow (els:=els) (i:=0) (n:=m) hes (by omega);simpa using this
theorem Zmv {t t' ty e:TypeId}{i:TypeInfo}(ht:P.underlying t=some (.slice e)) (hi:P.info? e=some i){n dl c:Nat}{y:Value}{news:List Value}(hs:Src P w t' i.size n y news){x:Option Addr}(ts:Array TypeId) (hts:ts = #[t,t'])
  (hst:∀ ad,x=some ad→(storeCells ad (news.take (min n dl * i.size))).run P w = .ok () w') (hn:x=none→w'=w):(Builtin.copy_ ts ty #[.slice x dl c,y]).run P w = .ok (.int .i64 (min n dl:Nat)) w' := by
 subst hts;have hf:=hs.cells (min n dl) (Nat.min_le_left _ _);have hlen:=hs.len w;have hnm:Nat.min n dl=min n dl:=rfl;cases x with
 | none =>
  have:=hn rfl;subst this;simp[Builtin.copy_,run_underlying ht,hlen,sizeOf,typeInfo,hi,goInt,hnm,hf]
 | some ad =>
  have:=hst ad rfl;simp[Builtin.copy_,run_underlying ht,hlen,sizeOf,typeInfo,hi,goInt,hnm,hf,this]
theorem Zxa (htt:∀ t i,tt t=some i→Z0 P t=some i) (h:Zl G B ks w0 S0 S bm st a w){t t':TypeId}{x y:Operand}{u:Upd}
  (ho:o.op = .call { callee:=.builtin .copy,args:=#[x,y],argTypes:=#[t,t'] }) (hu:eff tt T G o st.get st.boxes=some u):o.wp P a w (Sim G B ks w0 S0 (u.app st)) Q:=by
 unfold eff at hu;rw[ho] at hu;simp only at hu;split at hu
 ·rename_i i i' c q hi hi' hp hq
  split at hu
  ·rename_i e els' hk htl
   split at hu
   ·rename_i s hs
    split at hu <;> simp at hu
    rename_i u0 hu0;subst hu;show o.wp P a w (Sim G B ks w0 S0 ⟨Y5 st.env u0.slots,ZZ st.boxes u0.boxes⟩) Q
    have hut:=(Zn (htt _ _ hi)).slice hk;obtain⟨ei,hei,hes0⟩:=XS htt hs;obtain⟨info,dd,z,k1,k2,k3,k4,k5,k6,k7,_⟩:=hei.ex;rw[hes0] at k4
    have hex:∀ {v w'},(Builtin.copy_ #[t,t'] o.type #[a.eval x,a.eval y]).run P w = .ok v w'→(execOp a.eval o).run P w = .ok (.value v) w' := by
     intro v w' hv;simp only[execOp,ho,resolve,Sem.run_bind,Sem.run_pure,Result.andThen_ok,invoke,builtin];simp[hv]
    unfold ZhS at hu0;split at hu0
    ·rename_i nm ver i0 n e1
     split at hu0
     ·rename_i b hb
      split at hu0
      case isFalse=>simp at hu0
      rename_i hc;obtain⟨hver,hf,hle,hbe,rfl,h0,hes⟩:=hc;injection hu0 with hu0;subst hu0;obtain⟨news,hsrc,hrep⟩:=ZnO (P:=P) htt h hi' htl hes h0 (h.eval hq);have hxv:=h.evalC hp;generalize a.eval y=vy at hsrc hex;generalize a.eval x=vx at hxv hex;obtain⟨hesb0,_,_⟩:=h.boxes nm b hb;cases hxv with
      | pure hxv=>cases hxv
      | ms _ _ _ _ _ xa cc hmap hnc hcm hxk hro =>
       have hesb:=hesb0 hmap;obtain⟨b0,q1,q2,q3⟩:=hro;rw[hb] at q1;injection q1 with q1;subst q1;obtain⟨_,_,hloc⟩:=q3 hver;have hml:(els'.take (min els'.length n)).length=min els'.length n:=by rw[List.length_take]; omega
       have hel:b.els.take i0++els'.take (min els'.length n)++b.els.drop (i0+min els'.length n)=b.els.take i0++els'.take (min els'.length n)++b.els.drop (i0+(els'.take (min els'.length n)).length):=by rw[hml]
       rcases Nat.eq_zero_or_pos (min els'.length n) with hm0 | hm0
       ·have hr:=Zmv (P:=P) (ty:=o.type) (w' := w) hut k1 (by rw[k4]; exact hsrc) (x:=xa) (dl:=n) (c:=cc) #[t,t'] rfl (fun ad _=>by rw[hm0]; simp[storeCells]) (fun _=>rfl)
        have hsame:(⟨b.ver,b.e,b.els.take i0++els'.take (min els'.length n)++b.els.drop (i0+min els'.length n),b.frz,b.row⟩:Box)=b:=by
         rw[hm0];simp
        have hset:∀ {l:Boxes},getB l nm=some b→∀ nm',getB (setB l nm b) nm'=getB l nm' := fun hl nm'=>by
         rw[getB_set];split
         ·rename_i he; rw[← he,hl]
         ·rfl
        refine Yi (hex hr) ⟨S,bm,?_⟩;have h2:Zl G B ks w0 S0 S bm ⟨st.env,setB st.boxes nm b⟩ a w:=h.change (fun m b1 hb1=>⟨b1,by rw[hset hb]; exact hb1,Nat.le_refl _,fun _=>⟨rfl,rfl,rfl⟩⟩) (fun _ _ h=>h) (fun _ _ _=>rfl) (XE.refl _ _ _) (fun _ _ h=>.inl h) h.slt (fun m b1 hb1=>.inl ⟨by rw[hset hb] at hb1; exact hb1,rfl,fun _ _ _=>⟨rfl,fun _ h=>h⟩⟩) (fun m m' b1 b2 k C C' h1 h2=>by rw[hset hb] at h1 h2; exact h.inj m m' b1 b2 k C C' h1 h2);have:=h2.putDst o.dst (p:=.one (.v (.int .i64 (min els'.length n:Nat)))) (v:=.int .i64 (min els'.length n:Nat)) (.base (.one (.pure (.v _ rfl (by simp)))));simp only[ZZ,hsame];exact this
       ·have hn0:0<n:=by omega
        unfold Loc at hloc;split at hloc
        ·rename_i k C hbm
         obtain⟨rfl,hcC⟩:=hloc (.inl hn0);have hds:∀ l∈els'.take (min els'.length n),l.length=b.e:=fun l hl=>by rw[hbe]; exact hes l (List.mem_of_mem_take hl)
         have hfl:=Zod (els:=b.els) (ds:=els'.take (min els'.length n)) (i:=i0) hesb hds (by rw[hml]; omega);rw[← hel] at hfl;have hrep':ZU S w (els'.take (min els'.length n)).flatten (news.take (min els'.length n * e1)):=by rw[ZpR hes (Nat.min_le_left _ _)]; exact hrep.take _
         obtain⟨w',hw1,hw2⟩:=h.writeP (P:=P) (off:=i0 * b.e) hmap hb hbm hf (els' := b.els.take i0++els'.take (min els'.length n)++b.els.drop (i0+min els'.length n))
          (fun l hl=>by
           simp only[List.mem_append] at hl;rcases hl with (hl | hl) | hl
           ·exact hesb l (List.mem_of_mem_take hl)
           ·exact hds l hl
           ·exact hesb l (List.mem_of_mem_drop hl)) (by simp; omega) (ZU.toM hrep') (by
           rw[Z3 hesb,Z3 hds,hml,← Nat.add_mul]
           exact Nat.mul_le_mul_right _ (by omega)) hfl
         rw[hbe] at hw1;have hr:=Zmv (P:=P) (ty:=o.type) (w' := w') hut k1 (by rw[k4]; exact hsrc) (x:=some ⟨k,i0 * e1,none⟩) (dl:=n) (c:=cc) #[t,t'] rfl (fun ad had=>by injection had with had; subst had; rw[k4]; exact hw1) (fun h=>by simp at h);refine Yi (hex hr) ⟨S,bm,?_⟩;have:=hw2.putDst o.dst (p:=.one (.v (.int .i64 (min els'.length n:Nat)))) (v:=.int .i64 (min els'.length n:Nat)) (.base (.one (.pure (.v _ rfl (by simp)))));exact this
        ·omega
     ·simp at hu0
    ·rename_i nm ver off n e1
     split at hu0
     ·rename_i b hb
      split at hu0
      ·rename_i cs hcs
       split at hu0 <;> simp at hu0
       rename_i hc;obtain⟨hver,hf,hle,rfl,h0,hes⟩:=hc;subst hu0;obtain⟨news,hsrc,hrep⟩:=ZnO (P:=P) htt h hi' htl hes h0 (h.eval hq);have hxv:=h.evalC hp;generalize a.eval y=vy at hsrc hex;generalize a.eval x=vx at hxv hex;obtain⟨hesb0,_,_⟩:=h.boxes nm b hb;have hml:(els'.take (min els'.length n)).length=min els'.length n:=by rw[List.length_take]; omega
       have hds:∀ l∈els'.take (min els'.length n),l.length=e1:=fun l hl=>hes l (List.mem_of_mem_take hl)
       have hdl:(els'.take (min els'.length n)).flatten.length=min els'.length n * e1:=by rw[Z3 hds,hml]
       have hmn:min els'.length n * e1≤n * e1:=Nat.mul_le_mul_right _ (Nat.min_le_right _ _)
       have hmap:ZB nm=false:=by
        have hp2:=h.evalC hp;generalize a.eval x=vx at hp2;cases hp2 with
        | pure hp2=>cases hp2
        | fv _ _ _ _ _ xa cc hm h1 h2 h3 h4=>exact hm
       have hesb:=hesb0 hmap;have hbcs:b.e=cs.length:=(hesb cs (by simp[hcs])).symm;cases hxv with
       | pure hxv=>cases hxv
       | fv _ _ _ _ _ xa cc hmap hnc hcm hxk hro =>
        have hesb:=hesb0 hmap;obtain⟨b0,q1,q2,q3⟩:=hro;rw[hb] at q1;injection q1 with q1;subst q1;have hloc:=q3 hver;rcases Nat.eq_zero_or_pos (min els'.length n) with hm0 | hm0
        ·have hr:=Zmv (P:=P) (ty:=o.type) (w' := w) hut k1 (by rw[k4]; exact hsrc) (x:=xa) (dl:=n) (c:=cc) #[t,t'] rfl (fun ad _=>by rw[hm0]; simp[storeCells]) (fun _=>rfl)
         have hsame:(⟨b.ver,b.e,[ZE cs off (els'.take (min els'.length n)).flatten],b.frz,b.row⟩:Box)=b:=by
          rw[hm0];simp[ZE,← hcs]
         have hset:∀ {l:Boxes},getB l nm=some b→∀ nm',getB (setB l nm b) nm'=getB l nm' := fun hl nm'=>by
          rw[getB_set];split
          ·rename_i he; rw[← he,hl]
          ·rfl
         refine Yi (hex hr) ⟨S,bm,?_⟩;have h2:Zl G B ks w0 S0 S bm ⟨st.env,setB st.boxes nm b⟩ a w:=h.change (fun m b1 hb1=>⟨b1,by rw[hset hb]; exact hb1,Nat.le_refl _,fun _=>⟨rfl,rfl,rfl⟩⟩) (fun _ _ h=>h) (fun _ _ _=>rfl) (XE.refl _ _ _) (fun _ _ h=>.inl h) h.slt (fun m b1 hb1=>.inl ⟨by rw[hset hb] at hb1; exact hb1,rfl,fun _ _ _=>⟨rfl,fun _ h=>h⟩⟩) (fun m m' b1 b2 k C C' h1 h2=>by rw[hset hb] at h1 h2; exact h.inj m m' b1 b2 k C C' h1 h2);have:=h2.putDst o.dst (p:=.one (.v (.int .i64 (min els'.length n:Nat)))) (v:=.int .i64 (min els'.length n:Nat)) (.base (.one (.pure (.v _ rfl (by simp)))));simp only[ZZ,hsame];exact this
        ·obtain⟨k,C,hbm,rfl⟩:=hloc (by omega)
         have hrep':ZU S w (els'.take (min els'.length n)).flatten (news.take (min els'.length n * e1)):=by rw[ZpR hes (Nat.min_le_left _ _)]; exact hrep.take _
         have hple:off+(els'.take (min els'.length n)).flatten.length≤cs.length:=by rw[hdl]; omega
         obtain⟨w',hw1,hw2⟩:=h.writeP (P:=P) (off:=off) (ds:=(els'.take (min els'.length n)).flatten) hmap hb hbm hf (els' := [ZE cs off (els'.take (min els'.length n)).flatten])
          (fun l hl=>by simp at hl; subst hl; rw[ZnQ hple,hbcs]) (by simp[hcs]) (ZU.toM hrep') (by rw[hcs]; simpa using hple) (by rw[hcs]; simp)
         have hr:=Zmv (P:=P) (ty:=o.type) (w' := w') hut k1 (by rw[k4]; exact hsrc) (x:=some ⟨k,off,none⟩) (dl:=n) (c:=cc) #[t,t'] rfl (fun ad had=>by injection had with had; subst had; rw[k4]; exact hw1) (fun h=>by simp at h);refine Yi (hex hr) ⟨S,bm,?_⟩;have:=hw2.putDst o.dst (p:=.one (.v (.int .i64 (min els'.length n:Nat)))) (v:=.int .i64 (min els'.length n:Nat)) (.base (.one (.pure (.v _ rfl (by simp)))));exact this
      ·simp at hu0
     ·simp at hu0
    ·simp at hu0
   ·simp at hu
  ·simp at hu
 ·simp at hu
theorem Zup {z:Array Value}{zs:List Zc}{n s:Nat}(hz:z.toList=zs.map Zc.val) (hs:zs.length=s):Zk (Yn S w) (List.replicate n (zs.map Zc.cell)).flatten (Builtin.zeroCells z n).toList:=by
 have hzs:z.size=s:=by rw[← Array.length_toList,hz]; simpa using hs
 have hlen:(List.replicate n (zs.map Zc.cell)).flatten.length=n * s:=by rw[Z3 (e:=s) (by simp[hs])]; simp
 refine Zk.of_get (by rw[hlen,Array.length_toList,Zhj hzs]) fun q c v hc hv=>?_
 have hq:=Zm hc;rw[hlen] at hq
 have h0:0<s:=by
  rcases Nat.eq_zero_or_pos s with h | h
  ·subst h; simp at hq
  ·exact h
 have hd1:q / s<n:=(Nat.div_lt_iff_lt_mul h0).2 hq;have h2:=Zjo (els:=List.replicate n (zs.map Zc.cell)) (e:=s) (i:=q / s) (j:=q % s) (l:=zs.map Zc.cell) (by simp[hs]) (by simp[hd1]) (Nat.mod_lt _ h0);rw[Nat.mul_comm,Nat.div_add_mod,hc] at h2;obtain⟨v',h3,h4⟩:=(Zjn S w zs).get h2.symm
 have hv2:(Builtin.zeroCells z n)[q]? = z[q % s]? := by
  have hm:q % s<z.size:=by rw[hzs]; exact Nat.mod_lt _ h0
  simp[Builtin.zeroCells,hzs,hq]
  rw[getElem!_pos z (q % s) hm,getElem?_pos z (q % s) hm]
 have hv3:(Builtin.zeroCells z n)[q]? = some v:=by simpa using hv
 rw[← hz] at h3;have h5:z[q % s]? = some v' := by simpa using h3
 rw[hv2,h5] at hv3;injection hv3 with hv3;exact hv3 ▸ h4
theorem ZpS {t ty e:TypeId}{i:TypeInfo}{z:Value}(ht:P.underlying t=some (.slice e)) (hz:∀ w,(zeroValue e).run P w = .ok z w){x:Option Addr}{n c:Nat}
  (hst:∀ ad,x=some ad→n≠0→(storeCells ad (Builtin.zeroCells z.cells n).toList).run P w = .ok () w') (hn:x=none∨n=0→w'=w):(Builtin.clear_ #[t] ty #[.slice x n c]).run P w = .ok (.tuple #[]) w' := by
 cases x with
 | none =>
  have:=hn (.inl rfl);subst this;simp[Builtin.clear_,run_underlying ht]
 | some ad =>
  cases n with
  | zero =>
   have:=hn (.inr rfl);subst this;simp[Builtin.clear_,run_underlying ht]
  | succ n =>
   have:=hst ad rfl (by simp);simp[Builtin.clear_,run_underlying ht,hz,this]
theorem ZvV (htt:∀ t i,tt t=some i→Z0 P t=some i) (h:Zl G B ks w0 S0 S bm st a w){t:TypeId}{x:Operand}{u:Upd}
  (ho:o.op = .call { callee:=.builtin .clear,args:=#[x],argTypes:=#[t] }) (hu:eff tt T G o st.get st.boxes=some u):o.wp P a w (Sim G B ks w0 S0 (u.app st)) Q:=by
 unfold eff at hu;rw[ho] at hu;simp only at hu;split at hu
 ·rename_i i nm ver i0 n e1 hi hp
  split at hu
  ·rename_i e hk
   split at hu
   ·rename_i j hj
    split at hu
    case isFalse=>simp at hu
    rename_i hcd;obtain⟨hd,hzl⟩:=hcd;have hut:=(Zn (htt _ _ hi)).slice hk;have hjt:=Zn (htt _ _ hj);obtain⟨info,dd,z,k1,k2,k3,k4,k5,k6,k7,_⟩:=hjt.ex;have hzw:∀ w',(zeroValue e).run P w' = .ok z w' := fun w'=>by simp[zeroValue,typeInfo,k1,k3]
    have hz2:z.cells.toList=j.zero.map Zc.val:=zcs_vals k6
    have hex:∀ {v w'},(Builtin.clear_ #[t] o.type #[a.eval x]).run P w = .ok v w'→(execOp a.eval o).run P w = .ok (.value v) w' := by
     intro v w' hv;simp only[execOp,ho,resolve,Sem.run_bind,Sem.run_pure,Result.andThen_ok,invoke,builtin];simp[hv]
    unfold ZhS at hu;simp only at hu;split at hu
    ·rename_i b hb
     split at hu
     case isFalse=>simp at hu
     rename_i hc;obtain⟨hver,hf,hle,hbe,rfl,h0,hes⟩:=hc;injection hu with hu;subst hu;show o.wp P a w (Sim G B ks w0 S0 ⟨Y5 st.env [],ZZ st.boxes _⟩) Q
     have hxv:=h.evalC hp;generalize a.eval x=vx at hxv hex;obtain⟨hesb0,_,_⟩:=h.boxes nm b hb;cases hxv with
     | pure hxv=>cases hxv
     | ms _ _ _ _ _ xa cc hmap hnc hcm hxk hro =>
      have hesb:=hesb0 hmap;obtain⟨b0,q1,q2,q3⟩:=hro;rw[hb] at q1;injection q1 with q1;subst q1;obtain⟨_,_,hloc⟩:=q3 hver;simp only[List.length_replicate,Nat.min_self];rcases Nat.eq_zero_or_pos n with hm0 | hm0
      ·subst hm0
       have hr:=ZpS (P:=P) (w:=w) (ty:=o.type) (w' := w) (i:=default) hut hzw (x:=xa) (n:=0) (c:=cc) (fun _ _ h=>absurd rfl h) (fun _=>rfl);have hsame:(⟨b.ver,b.e,b.els.take i0++(List.replicate 0 (j.zero.map Zc.cell)).take 0++b.els.drop (i0+0),b.frz,b.row⟩:Box)=b:=by simp
       have hset:∀ {l:Boxes},getB l nm=some b→∀ nm',getB (setB l nm b) nm'=getB l nm' := fun hl nm'=>by
        rw[getB_set];split
        ·rename_i he; rw[← he,hl]
        ·rfl
       refine Yi (hex hr) ?_;rw[hd];refine⟨S,bm,?_⟩;have h2:Zl G B ks w0 S0 S bm ⟨st.env,setB st.boxes nm b⟩ a w:=h.change (fun m b1 hb1=>⟨b1,by rw[hset hb]; exact hb1,Nat.le_refl _,fun _=>⟨rfl,rfl,rfl⟩⟩) (fun _ _ h=>h) (fun _ _ _=>rfl) (XE.refl _ _ _) (fun _ _ h=>.inl h) h.slt (fun m b1 hb1=>.inl ⟨by rw[hset hb] at hb1; exact hb1,rfl,fun _ _ _=>⟨rfl,fun _ h=>h⟩⟩) (fun m m' b1 b2 k C C' h1 h2=>by rw[hset hb] at h1 h2; exact h.inj m m' b1 b2 k C C' h1 h2);simp only[ZZ,hsame];exact h2
      ·have hz0:(List.replicate n (j.zero.map Zc.cell)).take n=List.replicate n (j.zero.map Zc.cell):=by simp
       have hds:∀ l∈List.replicate n (j.zero.map Zc.cell),l.length=b.e:=fun l hl=>by rw[hbe]; exact hes l hl
       unfold Loc at hloc;split at hloc
       ·rename_i k C hbm
        obtain⟨rfl,hcC⟩:=hloc (.inl hm0);have hfl:=Zod (els:=b.els) (ds:=List.replicate n (j.zero.map Zc.cell)) (i:=i0) hesb hds (by simp; omega);rw[List.length_replicate] at hfl
        obtain⟨w',hw1,hw2⟩:=h.writeP (P:=P) (off:=i0 * b.e) hmap hb hbm hf (els' := b.els.take i0++List.replicate n (j.zero.map Zc.cell)++b.els.drop (i0+n))
         (fun l hl=>by
          simp only[List.mem_append] at hl;rcases hl with (hl | hl) | hl
          ·exact hesb l (List.mem_of_mem_take hl)
          ·exact hds l hl
          ·exact hesb l (List.mem_of_mem_drop hl)) (by simp; omega) (ZU.toM (Zup (z:=z.cells) (n:=n) (by simpa using hz2) hzl)) (by
          rw[Z3 hesb,Z3 hds,List.length_replicate,← Nat.add_mul]
          exact Nat.mul_le_mul_right _ (by omega)) hfl
        rw[hbe] at hw1;have hr:=ZpS (P:=P) (ty:=o.type) (w:=w) (w' := w') (i:=default) hut hzw (x:=some ⟨k,i0 * j.size,none⟩) (n:=n) (c:=cc) (fun ad had _=>by injection had with had; subst had; exact hw1) (fun hh=>by rcases hh with hh | hh <;> first | (simp at hh; done) | omega);refine Yi (hex hr) ?_;rw[hd];refine⟨S,bm,?_⟩;rw[hz0];exact hw2
       ·omega
    ·simp at hu
   ·simp at hu
  ·simp at hu
 ·simp at hu
end
section
variable {P:Program}{w:World}{S:Nat→Nat→Prop}
theorem checkKey_flat:∀ (d:Nat) (t:TypeId) (xs:List Value) (D:Nat) (em:Bool),Zc1 P d t=true→d≤D→xs.length=P.cellsOf t→(Instr.checkKey em D t (mkV P t xs)).run P w = .ok () w:=by
 intro d;induction d with
 | zero=>intro t xs D em h; simp[Zc1] at h
 | succ d ih =>
  intro t xs D em h hD hlen;obtain⟨D,rfl⟩:∃ D',D=D'+1:=⟨D-1,by omega⟩
  simp only[Zc1] at h;cases hu:P.underlying t with
  | none=>rw[hu] at h; simp at h
  | some td =>
   rw[hu] at h;obtain⟨i,hi⟩:=info_of_underlying hu;cases td with
   | int k =>
    have ha:Za5 P t=false:=by simp[Za5,hu]
    simp[Instr.checkKey,run_underlying hu]
   | array n e =>
    simp only[Bool.and_eq_true,beq_iff_eq] at h;obtain⟨he,hsz⟩:=h;obtain⟨f1,f2,f3⟩:=Zlz he;obtain⟨ei,hei⟩:=Option.isSome_iff_exists.1 f1;have hse:P.cellsOf e=ei.size:=by simp[Program.cellsOf,hei]
    have ha:Za5 P t=true:=by simp[Za5,hu]
    simp only[mkV,ha,if_true];rw[Instr.checkKey];simp only[Sem.run_bind,run_underlying hu,Result.andThen_ok];simp only[Std.Legacy.Range.forIn_eq_forIn_range',Std.Legacy.Range.size,Nat.sub_zero,Nat.add_one_sub_one,Nat.div_one];have each:∀ j∈List.range' 0 n,j<n:=fun j hj=>by simp at hj; omega
    generalize List.range' 0 n=is at each;induction is with
    | nil=>simp
    | cons j is ihl =>
     have hj:=each j (by simp)
     have hle:j * P.cellsOf e+P.cellsOf e≤xs.length:=by
      rw[hlen,hsz];have:(j+1) * P.cellsOf e≤n * P.cellsOf e:=Nat.mul_le_mul_right _ (by omega);rw[Nat.add_mul] at this;omega
     have r1:=ih e ((xs.drop (j * P.cellsOf e)).take (P.cellsOf e)) D em he (by omega) (by simp; omega);have r2:=Zgf (w:=w) f1 f2 hle f3;simp only[List.forIn_cons,Sem.run_bind,run_sizeOf w hei,Result.andThen_ok,r2,r1,Sem.run_pure];exact ihl fun y hy=>each y (by simp[hy])
   | struct fs =>
    simp only[Bool.and_eq_true,Bool.not_eq_true'] at h;obtain⟨hst,hfs⟩:=h;have ha:Za5 P t=true:=by simp[Za5,hu]
    simp only[mkV,ha,if_true];rw[Instr.checkKey];simp only[Sem.run_bind,run_underlying hu,Result.andThen_ok];rw[← Array.forIn_toList];generalize fs.toList=L at hfs;generalize 0=off at hfs;induction L generalizing off with
    | nil=>simp
    | cons f L ihl =>
     obtain⟨g1,g2,g3,g4⟩:=ZlL hfs;have hle:=Zm7 g4;obtain⟨f1,f2,f3⟩:=Zlz g3;subst g2;have r1:=ih f.type ((xs.drop f.offset).take (P.cellsOf f.type)) D em g3 (by omega) (by simp; omega);have r2:=Zgf (w:=w) f1 f2 (show f.offset+P.cellsOf f.type≤xs.length by omega) f3;simp only[List.forIn_cons,Sem.run_bind,g1,ne_eq,not_false_eq_true,if_true,r2,r1,Result.andThen_ok,Sem.run_pure];exact ihl _ g4
   | _=>simp at h
theorem valsEq_true:∀ {xs ys:List Value},valsEq xs ys=some true→xs=ys
 | [],[],_=>rfl
 | [],_ :: _,h=>by simp[valsEq] at h
 | _ :: _,[],h=>by simp[valsEq] at h
 | x :: xs,y :: ys,h=>by
  simp only[valsEq] at h;split at h <;> simp at h
  rename_i a b h1 h2;obtain⟨rfl,rfl⟩:=h
  have hxy:x=y:=by
   unfold valEq at h1;split at h1
   ·split at h1 <;> simp at h1
    rename_i hk;subst hk h1;rfl
   ·simp at h1
  rw[hxy,valsEq_true h2]
theorem kKind_len:∀ {h c:List Cell},kKind h c=true→c.length=h.length
 | [],[],_=>rfl
 | [],_ :: _,h=>by simp[kKind] at h
 | _ :: _,[],h=>by simp[kKind] at h
 | x :: h,y :: c,hk=>by
  simp only[kKind,Bool.and_eq_true] at hk;simp[kKind_len hk.2]
theorem kEq_int:∀ {h kc l:List Cell}{xs ys:List Value},kKind h kc=true→kKind h l=true→kc.all Cell.isI=true→ZU S w kc xs→ZU S w l ys→valsEq xs ys=some (kEq kc l)
 | [],[],[],xs,ys,_,_,_,hx,hy=>by cases hx; cases hy; rfl
 | [],_ :: _,_,xs,ys,h1,_,_,_,_=>by simp[kKind] at h1
 | [],[],_ :: _,xs,ys,_,h2,_,_,_=>by simp[kKind] at h2
 | _ :: _,[],_,xs,ys,h1,_,_,_,_=>by simp[kKind] at h1
 | _ :: _,_ :: _,[],xs,ys,_,h2,_,_,_=>by simp[kKind] at h2
 | z :: h,c :: kc,d :: l,xs,ys,h1,h2,h3,hx,hy=>by
  simp only[kKind,Bool.and_eq_true] at h1 h2;simp only[List.all_cons,Bool.and_eq_true] at h3;cases hx with
  | cons hx hxs=>cases hy with
   | cons hy hys =>
    have ih:=kEq_int h1.2 h2.2 h3.2 hxs hys;cases c with
    | v cv=>cases cv with
     | int k a=>cases z with
      | v zv=>cases zv with
       | int k0 a0=>cases d with
        | v dv=>cases dv with
         | int k' b =>
          have e1:=h1.1;have e2:=h2.1;simp only[kKind1,decide_eq_true_eq] at e1 e2;subst e1;cases hx
          cases hy
          simp[valsEq,valEq,e2,ih,kEq,kEq1]
         | _=>have:=h2.1; simp[kKind1] at this
        | _=>have:=h2.1; simp[kKind1] at this
       | _=>have:=h1.1; simp[kKind1] at this
      | _=>have:=h1.1; simp[kKind1] at this
     | _=>have:=h3.1; simp[Cell.isI] at this
    | _=>have:=h3.1; simp[Cell.isI] at this
def ZhC (n:Nat) (kc:List Cell):List (List Cell)→List MapEntry→Nat→Option (Nat×Value)
 | l :: ls,e :: es,i=>if kEq kc (l.take n) then some (i,e.val) else ZhC n kc ls es (i+1)
 | _,_,_=>none
theorem Zoz {n:Nat}{kc vs:List Cell}{R:List Cell→MapEntry→Prop}:∀ {ls:List (List Cell)}{es:List MapEntry}{i:Nat},Zk R ls es→ZhC n kc ls es i=none→ZgQ n kc ls=none∧ZgR n kc vs ls=ls++[kc++vs]
 | [],[],i,_,_=>⟨rfl,rfl⟩
 | l :: ls,e :: es,i,h,hh=>by
  cases h with
  | cons h1 h2 =>
   simp only[ZhC] at hh;split at hh
   ·simp at hh
   ·rename_i hk
    obtain⟨g1,g2⟩:=Zoz (vs:=vs) h2 hh;simp[ZgQ,ZgR,hk,g1,g2]
theorem ZoA {n:Nat}{kc vs:List Cell}{R:List Cell→MapEntry→Prop}:∀ {ls:List (List Cell)}{es:List MapEntry}{i j:Nat}{v:Value},Zk R ls es→ZhC n kc ls es i=some (j,v) →
  ∃ q l e,j=i+q∧ls[q]? = some l∧es[q]? = some e∧e.val=v∧kEq kc (l.take n)=true∧ZgQ n kc ls=some (l.drop n)∧ZgR n kc vs ls=ls.set q (kc++vs)
 | [],[],i,j,v,_,hh=>by simp[ZhC] at hh
 | l :: ls,e :: es,i,j,v,h,hh=>by
  cases h with
  | cons h1 h2 =>
   simp only[ZhC] at hh;split at hh
   ·rename_i hk
    simp only[Option.some.injEq,Prod.mk.injEq] at hh;obtain⟨rfl,rfl⟩:=hh;exact⟨0,l,e,rfl,rfl,rfl,rfl,hk,by simp[ZgQ,hk],by simp[ZgR,hk]⟩
   ·rename_i hk
    obtain⟨q,l',e',rfl,g1,g2,g3,g4,g5,g6⟩:=ZoA (vs:=vs) h2 hh;exact⟨q+1,l',e',by omega,by simpa using g1,by simpa using g2,g3,g4,by simp[ZgQ,hk,g5],by simp[ZgR,hk,g6]⟩
theorem Zuq {t:TypeId}{i:TI}(h:XF P t i):Za5 P t=i.agg:=by
 obtain⟨info,d,z,h1,h2,h3,h4,h5,h6,h7⟩:=h.ex;unfold Za5 TI.agg;rw[h2,← h5];cases d <;> simp[tkind]
theorem ZqY {t:TypeId}{i:TI}(h:XF P t i):P.cellsOf t=i.size:=by
 obtain⟨info,d,z,h1,h2,h3,h4,_⟩:=h.ex;simp[Program.cellsOf,h1,h4]
theorem Zpr {t:TypeId}{i:TI}(h:XF P t i) (hf:i.flat=true):Zc1 P 20 t=true:=by
 obtain⟨info,d,z,h1,h2,h3,h4,h5,h6,h7,h8⟩:=h.ex;rw[h8] at hf;simp only[Bool.and_eq_true] at hf;exact hf.1
theorem Zj5 {t:TypeId}{i:TI}(h:XF P t i){v:Value}{xs:List Value}(hs:Zcn i.agg v xs):v=mkV P t xs:=by
 unfold mkV;rw[Zuq h];unfold Zcn at hs;split at hs
 ·rename_i ha; rw[ha]; exact hs
 ·rename_i ha
  simp only[Bool.not_eq_true] at ha;rw[ha,hs];rfl
theorem Zmw {bm:BM}{bx:Boxes}{p:PV}{v:Value}{cs:List Cell}{agg:Bool}(hp:X9 S w bm bx p v) (hs:Zk1 agg p=true) (hc:p.cells=some cs):∃ xs,Zcn agg v xs∧Zk (ZW S w bm bx) cs xs:=by
 cases p with
 | one c =>
  simp[PV.cells] at hc
  subst hc;simp[Zk1] at hs
  subst hs;cases hp with
  | base hp=>cases hp with
   | one hp=>exact⟨[v],rfl,.cons hp .nil⟩
 | agg ds =>
  simp[PV.cells] at hc
  subst hc;simp[Zk1] at hs
  subst hs;cases hp with
  | base hp=>cases hp with
   | agg hp=>exact⟨_,rfl,hp⟩
 | _=>simp[PV.cells] at hc
theorem Znc {bm:BM}{bx:Boxes}:∀ {cs:List Cell}{xs:List Value},Zk (ZW S w bm bx) cs xs→Yd cs=true→ZU S w cs xs
 | [],xs,h,_=>by cases h; exact .nil
 | c :: cs,xs,h,hp=>by
  cases h with
  | cons h1 h2 =>
   simp only[Yd,List.all_cons,Bool.and_eq_true] at hp;exact .cons (h1.pureC hp.1) (Znc h2 hp.2)
theorem kKind_pure:∀ {h c:List Cell},kKind h c=true→Yd c=true
 | [],[],_=>rfl
 | [],_ :: _,h=>by simp[kKind] at h
 | _ :: _,[],h=>by simp[kKind] at h
 | x :: h,y :: c,hk=>by
  simp only[kKind,Bool.and_eq_true] at hk
  have:y.pureB=true:=by
   have:=hk.1;cases y <;> first | rfl | (cases x <;> simp[kKind1] at this)
  simp only[Yd,List.all_cons,Bool.and_eq_true];exact⟨this,kKind_pure hk.2⟩
theorem sameBits_flat:∀ (n:Nat) (xs:List Value),(∀ x∈xs,∃ k a,x = .int k a)→(xs.zip xs).all (fun(x,y)=>Instr.sameBits n x y)=true
 | n,[],_=>rfl
 | n,x :: xs,h=>by
  obtain⟨k,a,rfl⟩:=h x (by simp);have:=sameBits_flat n xs (fun y hy=>h y (by simp[hy]));simp only[List.zip_cons_cons,List.all_cons,Bool.and_eq_true];exact⟨by cases n <;> simp[Instr.sameBits],this⟩
theorem ints_vals:∀ {kc:List Cell}{xs:List Value},kc.all Cell.isI=true→ZU S w kc xs→∀ x∈xs,∃ k a,x = .int k a
 | [],xs,_,h=>by cases h; simp
 | c :: kc,xs,hi,h=>by
  cases h with
  | cons h1 h2 =>
   simp only[List.all_cons,Bool.and_eq_true] at hi;intro x hx;rcases List.mem_cons.1 hx with rfl | hx
   ·cases c with
    | v cv=>cases cv with
     | int k a=>cases h1; exact⟨k,a,rfl⟩
     | _=>have:=hi.1; simp[Cell.isI] at this
    | _=>have:=hi.1; simp[Cell.isI] at this
   ·exact ints_vals hi.2 h2 x hx
structure Zh9 (P:Program) (S:Nat→Nat→Prop) (w:World) (kt:TypeId) (ki:TI) (e:Nat) (h kc:List Cell) (v:Value) (kx:List Value) (ls:List (List Cell)) (es:List MapEntry):Prop where
 ty:XF P kt ki
 key:Zh8 ki kc=true
 shape:Zcn ki.agg v kx
 rep:ZU S w kc kx
 kind:kKind h kc=true
 len:h.length=ki.size
 flag:(e / 2 % 2 == 1)=ki.agg
 ents:Zk (ZjV S w e h) ls es
section
variable {kt:TypeId}{ki:TI}{e:Nat}{h kc:List Cell}{v:Value}{kx:List Value}{ls:List (List Cell)}{es:List MapEntry}
theorem Zh9.tail {l:List Cell}{x:MapEntry}(k:Zh9 P S w kt ki e h kc v kx (l :: ls) (x :: es)):ZjV S w e h l x∧Zh9 P S w kt ki e h kc v kx ls es:=by
 have:=k.ents;cases this with
 | cons h1 h2=>exact⟨h1,k.ty,k.key,k.shape,k.rep,k.kind,k.len,k.flag,h2⟩
theorem ZU.take {cs:List Cell}{xs:List Value}(h:ZU S w cs xs) (n:Nat):ZU S w (cs.take n) (xs.take n):=Zk.take h n
theorem Zh9.eqn {l:List Cell}{x:MapEntry}(k:Zh9 P S w kt ki e h kc v kx (l :: ls) (x :: es)) (hf:ki.kind≠.str):∃ ekx,Zcn ki.agg x.key ekx∧valsEq kx ekx=some (kEq kc (l.take ki.size))∧ekx.length=kx.length:=by
 obtain⟨⟨ekx,evx,h1,h2,h3,h4,h5,h6⟩,k'⟩:=k.tail;have hkey:=k.key;unfold Zh8 at hkey;rw[if_neg hf] at hkey;simp only[Bool.and_eq_true] at hkey
 have hr:ZU S w (l.take h.length) ekx:=by
  have:=h3.take h.length;rw[← h5,List.take_left] at this;rw[h5] at this;exact this
 rw[k.flag] at h1;refine⟨ekx,h1,?_,?_⟩
 ·rw[← k.len]
  exact kEq_int k.kind h4 hkey.2 k.rep hr
 ·rw[h5,← k.rep.length,kKind_len k.kind]
theorem Zur (hagg:ki.agg=true):∀ {ls:List (List Cell)}{es:List MapEntry}{i:Nat},Zh9 P S w kt ki e h kc v kx ls es→(Instr.findAsking kt v es i).run P w = .ok (ZhC ki.size kc ls es i) w
 | [],[],i,k=>by simp[Instr.findAsking,ZhC]
 | [],_ :: _,i,k=>by have:=k.ents; cases this
 | _ :: _,[],i,k=>by have:=k.ents; cases this
 | l :: ls,x :: es,i,k=>by
  have hns:ki.kind≠.str:=by
   intro hs;have hk:=k.key;unfold Zh8 at hk;rw[if_pos hs,hagg] at hk;simp at hk
  have hkey:=k.key;unfold Zh8 at hkey;rw[if_neg hns] at hkey;simp only[Bool.and_eq_true] at hkey;obtain⟨ekx,h1,h2,h3⟩:=k.eqn hns;have hlen:kx.length=P.cellsOf kt:=by rw[ZqY k.ty,← k.len,← k.rep.length,kKind_len k.kind]
  have heq:=Zm8 20 kt kx ekx _ 10000 w (Zpr k.ty hkey.1) (by omega) hlen h2;rw[← Zj5 k.ty k.shape,← Zj5 k.ty h1] at heq;have heq':(Op.equal kt v x.key).run P w = .ok (kEq kc (l.take ki.size)) w:=heq;simp only[Instr.findAsking,Sem.run_bind,heq',Result.andThen_ok,ZhC];cases hb:kEq kc (l.take ki.size) with
  | true=>simp
  | false=>simpa using Zur hagg k.tail.2
theorem ZoU (k:Zh9 P S w kt ki e h kc v kx ls es):(Instr.findKey kt v es).run P w = .ok (ZhC ki.size kc ls es 0) w:=by
 obtain⟨info,d,z,h1,h2,h3,h4,h5,h6,h7⟩:=k.ty.ex;unfold Instr.findKey;simp only[Sem.run_bind,run_underlying h2,Result.andThen_ok];cases ha:ki.agg with
 | true =>
  have hd:∀ x,Instr.sameNow d v x=none:=by
   intro x;have:ki.agg=true:=ha;unfold TI.agg at this;rw[← h5] at this;cases d <;> simp[tkind] at this <;> rfl
  have hfn:Instr.findNow d v es 0=none∨es=[]:=by
   cases es with
   | nil=>exact .inr rfl
   | cons x es=>left; simp[Instr.findNow,hd]
  rcases hfn with hfn | rfl
  ·rw[hfn]
   exact Zur ha k
  ·have:=k.ents
   cases this
   simp[Instr.findNow,ZhC]
 | false =>
  have key:∀ {ls:List (List Cell)}{es:List MapEntry}{i:Nat},Zh9 P S w kt ki e h kc v kx ls es→Instr.findNow d v es i=some (ZhC ki.size kc ls es i):=by
   intro ls;induction ls with
   | nil=>intro es i k; have:=k.ents; cases this; simp[Instr.findNow,ZhC]
   | cons l ls ih =>
    intro es i k;cases es with
    | nil=>have:=k.ents; cases this
    | cons x es =>
     have ihk:=ih (i:=i+1) k.tail.2
     have hsame:Instr.sameNow d v x.key=some (kEq kc (l.take ki.size)):=by
      by_cases hs:ki.kind = .str
      ·have hkey:=k.key
       unfold Zh8 at hkey;rw[if_pos hs] at hkey;simp only[Bool.and_eq_true] at hkey;obtain⟨⟨ekx,evx,g1,g2,g3,g4,g5,g6⟩,_⟩:=k.tail;rw[k.flag,ha] at g1;generalize x.key=xk at g1 ⊢;have hsv:=k.shape;rw[ha] at hsv;simp only[Zcn,Bool.false_eq_true,if_false] at g1 hsv;subst g1 hsv;unfold isStr1 at hkey;split at hkey
       ·rename_i s
        have hrep:=k.rep;cases hrep with
        | cons hr _ =>
         cases hr
         have hh:=k.kind;have hhl:=kKind_len hh;rw[← k.len,← hhl];simp only[List.length_singleton] at g5 ⊢
         match l,g3,g4 with
         | c :: l',g3,g4 =>
          cases g3 with
          | cons g7 _ =>
           rw[← hhl] at g4
           match h,hh,g4 with
           | [z],hh,g4 =>
            simp only[List.length_singleton,List.take_succ_cons,List.take_zero] at g4 ⊢;simp only[kKind,Bool.and_true] at g4 hh;cases z with
            | v zv=>cases zv with
             | string z0=>cases c with
              | v cv=>cases cv with
               | string c0 =>
                cases g7
                rw[hs] at h5;cases d <;> simp[tkind] at h5
                simp[Instr.sameNow,kEq,kEq1]
               | _=>simp[kKind1] at g4
              | _=>simp[kKind1] at g4
             | _=>simp[kKind1] at hh
            | _=>simp[kKind1] at hh
       ·simp at hkey
      ·obtain⟨ekx,g1,g2,g3⟩:=k.eqn hs
       have hkey:=k.key;unfold Zh8 at hkey;rw[if_neg hs] at hkey;simp only[Bool.and_eq_true] at hkey;have hsv:=k.shape;rw[ha] at g1 hsv;generalize x.key=xk at g1 ⊢;simp only[Zcn,Bool.false_eq_true,if_false] at g1 hsv;subst g1 hsv;have hfl:=Zpr k.ty hkey.1;have hta:=Zuq k.ty;rw[ha] at hta;simp only[Zc1,h2] at hfl;unfold Za5 at hta;rw[h2] at hta;cases d with
       | int q =>
        simp only[valsEq] at g2;split at g2 <;> simp at g2
        rename_i a b e1 e2;have hb:b=true:=by simpa[valsEq] using e2.symm
        subst hb;simp only[Bool.and_true] at g2;unfold valEq at e1;split at e1
        ·split at e1 <;> simp at e1
         rename_i hkk;rw[← g2,← e1];simp[Instr.sameNow,hkk]
        ·simp at e1
       | array _ _=>simp at hta
       | struct _=>simp at hta
       | _=>simp at hfl
     simp only[Instr.findNow,hsame,ZhC];cases hb:kEq kc (l.take ki.size) with
     | true=>simp
     | false=>simpa using ihk
  rw[key k];rfl
theorem Zoe (k:Zh9 P S w kt ki e h kc v kx ls es) (em:Bool):(Instr.checkKey em 10000 kt v).run P w = .ok () w:=by
 by_cases hs:ki.kind = .str
 ·have hu:=k.ty.str hs
  rw[show(10000:Nat)=9999+1 from rfl];generalize 9999=D;simp[Instr.checkKey,run_underlying hu]
 ·have hkey:=k.key
  unfold Zh8 at hkey;rw[if_neg hs] at hkey;simp only[Bool.and_eq_true] at hkey;have:=checkKey_flat (P:=P) (w:=w) 20 kt kx 10000 em (Zpr k.ty hkey.1) (by omega) (by rw[ZqY k.ty,← k.len,← k.rep.length,kKind_len k.kind]);rw[← Zj5 k.ty k.shape] at this;exact this
end
end
section
variable {P:Program}{tt:TT}{T:Tab}{G:Glob}{B:Nat}{ks:List Nat}{w0:World}{S0 S S':Nat→Nat→Prop}{bm bm':BM}{bx:Boxes}{st st':ASt}{a:Act}{w w':World}{Q:Exit→Act→World→Prop}{o:Oper}
theorem ZcB {nm:Nat}{p:Prop}(h:ZB nm=true) (h':ZB nm=false):p:=by rw[h] at h'; cases h'
theorem Zus (d:Nat):ZB (ZkC d)=true:=by
 unfold ZB ZkC;exact decide_eq_true Nat.right_le_or
theorem Zut (zs:List Zc):Yd (zs.map Zc.cell)=true:=by
 simp only[Yd,List.all_eq_true,List.mem_map];rintro x ⟨z,_,rfl⟩
 cases z <;> rfl
theorem Zth (htt:∀ t i,tt t=some i→Z0 P t=some i) (h:Zl G B ks w0 S0 S bm st a w){t:TypeId}{u:Upd}(ho:o.op = .makeMap t none) (hu:eff tt T G o st.get st.boxes=some u):o.wp P a w (Sim G B ks w0 S0 (u.app st)) Q:=by
 unfold eff at hu;rw[ho] at hu;simp only at hu;split at hu
 ·rename_i i d hi hd
  split at hu
  ·rename_i kt et hk
   split at hu
   ·rename_i ki ei hki hei
    split at hu <;> simp only[Option.some.injEq,reduceCtorEq] at hu
    rename_i hc;subst hu;have hMm:=Zus d;generalize ZkC d=M at hMm ⊢
    have hrun:(execOp a.eval o).run P w = .ok (.value (.map (some w.heap.size))) (w.alloc (.map #[] 0)):=by
     simp[execOp,ho,run_makeMap]
    have hal:=(Below.refl w.heap.size w).alloc (Nat.le_refl _) (.map #[] 0);have hnew:(w.alloc (.map #[] 0)).heap[w.heap.size]? = some (.map #[] 0):=heap_alloc_new w _;have hsz:w.heap.size<(w.alloc (.map #[] 0)).heap.size:=Zaa hnew;have hS0:∀ o,¬ S w.heap.size o:=fun o hs=>Nat.lt_irrefl _ (h.slt _ _ hs)
    obtain⟨B',hB'⟩:∃ B',(⟨Zr st.boxes M,Zos ei.size ki.agg ei.agg,[ki.zero.map Zc.cell],false,false⟩:Box)=B' := ⟨_,rfl⟩
    have hv:B'.ver=Zr st.boxes M:=by rw[← hB']
    have hver:=Zoc (bx:=st.boxes) (nm:=M) (b' := B') (X:=fun b=>B'.e=b.e∧B'.row=b.row∧some (w.heap.size,1)=bm M) hv
    have hs:=h.box1 (S' := S) (w' := w.alloc (.map #[] 0)) M B' w.heap.size 1 hver (.inl (Nat.le_refl _)) ⟨hal.os,hal.tape,hal.output,by omega,fun arr T h=>absurd (Zaa h) (Nat.lt_irrefl _)⟩ (fun b hb _=>hal.block b hb) (fun _ _ h=>h) (fun o hs=>absurd hs (hS0 o)) (fun _ _ h=>.inl h) hsz (by
     refine⟨fun hm=>ZcB hMm hm,fun hf=>(by rw[← hB'] at hf; simp at hf),?_⟩;simp only[if_true]
     exact⟨.inl ⟨Zw6 hMm,.inl h.base⟩,⟨fun hm=>ZcB hMm hm,fun _=>⟨#[],0,ki.zero.map Zc.cell,[],hnew,by rw[← hB'],Zut _,by rw[← hB'],.nil⟩⟩,fun hm=>ZcB hMm hm,by unfold maxLen; omega,fun o hs=>absurd hs (hS0 o),fun hf=>(by rw[← hB'] at hf; simp at hf),fun _=>rfl⟩)
    refine Yi hrun ⟨S,(fun m=>if m=M then some (w.heap.size,1) else bm m),?_⟩;rw[hd];have:=hs.put d (p:=.one (.mp M (Zr st.boxes M))) (v:=.map (some w.heap.size)) (.base (.one (.mp _ _ _ hMm ⟨B',getB_self,by rw[hv]; exact Nat.le_refl _,fun _=>⟨1,by simp⟩⟩)));simp only[Upd.app,Y5,ZZ,hB'];exact this
   ·simp at hu
  ·simp at hu
 ·simp at hu
theorem XF.map {t:TypeId}{i:TI}(h:XF P t i){k e:TypeId}(hk:i.kind = .map k e):P.underlying t=some (.map k e):=by
 obtain⟨info,d,z,h1,h2,h3,h4,h5,h6,h7⟩:=h.ex;rw[hk] at h5;cases d <;> simp[tkind] at h5
 obtain⟨rfl,rfl⟩:=h5; exact h2
theorem ZqZ (h:Zl G B ks w0 S0 S bm st a w){nm ver:Nat}{b:Box}{v:Value}{hd:List Cell}{ls:List (List Cell)}(hc:ZW S w bm st.boxes (.mp nm ver) v) (hb:getB st.boxes nm=some b) (hver:b.ver=ver) (hels:b.els=hd :: ls) :
  ∃ k C es clock,v = .map (some k)∧ZB nm=true∧bm nm=some (k,C)∧w.heap[k]? = some (.map es clock)∧b.frz=false∧ZjW S w bm st.boxes B ks nm k C b∧Yd hd=true∧Zk (ZjV S w b.e hd) ls es.toList:=by
 cases hc with
 | pure hc=>cases hc
 | mp _ _ k hm hr =>
  obtain⟨b',q1,q2,q3⟩:=hr;rw[hb] at q1;injection q1 with q1;subst q1;obtain⟨C,hbm⟩:=q3 hver;obtain⟨_,_,hB⟩:=h.boxes nm b hb;rw[hbm] at hB;obtain⟨es,clock,hd',ls',g1,g2,g3,g4,g5⟩:=hB.blk0.2 hm;rw[hels] at g2;injection g2 with g2 g6;subst g2 g6;exact⟨k,C,es,clock,rfl,hm,hbm,g1,g4,hB,g3,g5⟩
theorem Zq0 {s:Nat}{x y:Bool}{e:Nat}(h:e=Zos s x y):(e / 2 % 2 == 1)=x∧(e % 2 == 1)=y∧e / 4=s:=by
 subst h;unfold Zos;cases x <;> cases y <;> (refine⟨?_,?_,?_⟩ <;> simp <;> omega)
theorem Zuu (htt:∀ t i,tt t=some i→Z0 P t=some i) (h:Zl G B ks w0 S0 S bm st a w){t:TypeId}{x y:Operand}{ok:Bool}{u:Upd}(ho:o.op = .lookup t x y ok) (hu:eff tt T G o st.get st.boxes=some u):o.wp P a w (Sim G B ks w0 S0 (u.app st)) Q:=by
 unfold eff at hu;rw[ho] at hu;simp only at hu;split at hu
 ·rename_i i nm ver pk hi hx hy
  split at hu
  ·rename_i kt et b kc hk hb hkc
   split at hu
   ·rename_i ki ei hd ls hki hei hels
    split at hu
    case isFalse=>simp at hu
    rename_i hc;obtain⟨hver,hmap,hkey,he,hkk,hhl,hsh,hzl⟩:=hc;obtain⟨k,C,es,clock,hvx,_,hbm,hheap,_,hB,hph,hents⟩:=ZqZ h (h.evalC hx) hb hver hels;obtain⟨kx,s1,s2⟩:=Zmw (h.eval hy) hsh hkc;obtain⟨f1,f2,f3⟩:=Zq0 he;have K:Zh9 P S w kt ki b.e hd kc (a.eval y) kx ls es.toList:=⟨Zn (htt _ _ hki),hkey,s1,Znc s2 (kKind_pure hkk),hkk,hhl,f1,hents⟩
    have hck:=Zoe K es.isEmpty;have hfk:=ZoU K;have hut:=(Zn (htt _ _ hi)).map hk;have hte:=Zn (htt _ _ hei)
    have hval:∃ v vx,(Instr.lookup t (.map (some k)) (a.eval y) ok).run P w = .ok (if ok then .tuple #[v,.bool (ZgQ ki.size kc ls).isSome] else v) w∧Zcn ei.agg v vx∧ZU S w ((ZgQ ki.size kc ls).getD (nnL (ei.zero.map Zc.cell))) vx:=by
     cases hh:ZhC ki.size kc ls es.toList 0 with
     | none =>
      rw[hh] at hfk;obtain⟨g1,_⟩:=Zoz (vs:=[]) hents hh;obtain⟨z,zx,z1,z2,z3⟩:=hte.zeroA w;refine⟨z,zx,by simp[Instr.lookup,run_underlying hut,MapKept.run_getObj_map hheap,hck,hfk,z1,Result.andThen,g1],z2,?_⟩;rw[g1,z3];exact Zmu (Zjn S w _)
     | some jv =>
      obtain⟨j,v⟩:=jv;rw[hh] at hfk;obtain⟨q,l,e,rfl,g1,g2,g3,g4,g5,_⟩:=ZoA (vs:=[]) hents hh;subst g3;obtain⟨e',g6,ekx,evx,e1,e2,e3,e4,e5,e6⟩:=hents.get g1;rw[g2] at g6;injection g6 with g6;subst g6;rw[f2] at e2;refine⟨e.val,evx,by simp[Instr.lookup,run_underlying hut,MapKept.run_getObj_map hheap,hck,hfk,Result.andThen,g5],e2,?_⟩;rw[g5];simp only[Option.getD_some];have:=Zk.drop e3 ki.size;rw[← hhl,← e5,List.drop_left] at this;rw[← hhl,← e5];exact this
    obtain⟨v,vx,hv1,hv2,hv3⟩:=hval;rw[← hvx] at hv1
    have hrun:(execOp a.eval o).run P w = .ok (.value (if ok then .tuple #[v,.bool (ZgQ ki.size kc ls).isSome] else v)) w:=by
     simp[execOp,ho,hv1]
    split at hu <;> simp only[Option.some.injEq,reduceCtorEq] at hu
    rename_i p hp;subst hu
    have hpr:ZaK S w bm st.boxes p v:=by
     cases hag:ei.agg with
     | true =>
      rw[hag] at hp hv2;simp only[if_true,Option.some.injEq] at hp;subst hp;simp only[Zcn,if_true] at hv2;subst hv2;exact .agg (ZU.toM hv3)
     | false =>
      rw[hag] at hp hv2;simp only[Bool.false_eq_true,if_false] at hp;simp only[Zcn,Bool.false_eq_true,if_false] at hv2;subst hv2;split at hp <;> simp only[Option.some.injEq,reduceCtorEq] at hp
      rename_i c hcc;subst hp;rw[hcc] at hv3;cases hv3 with
      | cons hv3 _=>exact .one (.pure hv3)
    refine Yi hrun ⟨S,bm,h.putDst o.dst ?_⟩;cases ok with
    | false=>exact .base hpr
    | true =>
     have:=X9.tup (S:=S) (w:=w) (bm:=bm) (bx:=st.boxes) (Zk.cons hpr (.cons (.one (.pure (.v (.bool (ZgQ ki.size kc ls).isSome) rfl (by simp)))) .nil));simpa using this
   ·simp at hu
  ·simp at hu
 ·simp at hu
theorem Zxb (htt:∀ t i,tt t=some i→Z0 P t=some i) (h:Zl G B ks w0 S0 S bm st a w){t:TypeId}{x:Operand}{nm ver:Nat}{b:Box}{i:TI}{hd:List Cell}{ls:List (List Cell)}{k e:TypeId}(ho:o.op = .call { callee:=.builtin .len,args:=#[x],argTypes:=#[t] })
  (hx:rd G st.get x=some (.one (.mp nm ver))) (hb:getB st.boxes nm=some b) (hi:tt t=some i) (hels:b.els=hd :: ls) (hk:i.kind = .map k e) (hver:b.ver=ver):o.wp P a w (Sim G B ks w0 S0 (Upd.app ⟨Zdb o.dst (.one (.v (.int .i64 ls.length))),[],[nm]⟩ st)) Q:=by
 obtain⟨k',C,es,clock,hvx,_,hbm,hheap,_,hB,hph,hents⟩:=ZqZ h (h.evalC hx) hb hver hels;have hut:=(Zn (htt _ _ hi)).map hk;have hl:ls.length=es.size:=by rw[hents.length]; simp
 have hrun:(execOp a.eval o).run P w = .ok (.value (.int .i64 ls.length)) w:=by
  simp only[execOp,ho,resolve,Sem.run_bind,Sem.run_pure,Result.andThen_ok,invoke,builtin];simp[Builtin.len_,run_underlying hut,hvx,MapKept.run_getObj_map hheap,goInt,hl]
 exact Yi hrun ⟨S,bm,h.putDst o.dst (.base (.one (.pure (.v _ rfl (by simp)))))⟩
theorem ZvW {k:Nat}{x:Obj}(y:Obj) (h:w.heap[k]? = some x):({ w with heap:=w.heap.setIfInBounds k y }:World).heap[k]? = some y∧∀ b,b≠k→({ w with heap:=w.heap.setIfInBounds k y }:World).heap[b]? = w.heap[b]? := by
 have hk:=Zaa h;refine⟨by simp[hk],fun b hb=>?_⟩;simp[Ne.symm hb]
theorem Zr2 {kt:TypeId}{ki:TI}{e:Nat}{h kc:List Cell}{v:Value}{kx:List Value}{ls:List (List Cell)}{es:List MapEntry}(K:Zh9 P S w kt ki e h kc v kx ls es):(Instr.keyThatStays v v).run P w = .ok v w:=by
 have hs:Instr.sameBits 10000 v v=true:=by
  have hkey:=K.key;unfold Zh8 at hkey;have hsh:=K.shape;split at hkey
  ·simp only[Bool.and_eq_true] at hkey
   have ha:ki.agg=false:=by simpa using hkey.2
   rw[ha] at hsh;simp only[Zcn,Bool.false_eq_true,if_false] at hsh;subst hsh;have hrep:=K.rep;have h1:=hkey.1;unfold isStr1 at h1;split at h1
   ·cases hrep with
    | cons hr _=>cases hr; simp[Instr.sameBits,MapKept.bytes_beq]
   ·simp at h1
  ·simp only[Bool.and_eq_true] at hkey
   have hints:=ints_vals hkey.2 K.rep;cases ha:ki.agg with
   | true =>
    rw[ha] at hsh;simp only[Zcn,if_true] at hsh;subst hsh;have:=sameBits_flat 9999 kx hints;rw[show(10000:Nat)=9999+1 from rfl];simp only[Instr.sameBits,beq_self_eq_true,Bool.true_and];exact this
   | false =>
    rw[ha] at hsh;simp only[Zcn,Bool.false_eq_true,if_false] at hsh;subst hsh;obtain⟨k,n,rfl⟩:=hints v (by simp);simp[Instr.sameBits]
 simp[Instr.keyThatStays,hs]
theorem Zq1 (htt:∀ t i,tt t=some i→Z0 P t=some i) (h:Zl G B ks w0 S0 S bm st a w){t:TypeId}{x y z:Operand}{u:Upd}(ho:o.op = .mapUpdate t x y z) (hu:eff tt T G o st.get st.boxes=some u):o.wp P a w (Sim G B ks w0 S0 (u.app st)) Q:=by
 unfold eff at hu;rw[ho] at hu;simp only at hu;split at hu
 ·rename_i i nm ver pk pv hi hx hy hz
  split at hu
  ·rename_i kt et b kc vc hk hb hkc hvc
   split at hu
   ·rename_i ki ei hd ls us hki hei hels hus
    split at hu <;> simp only[Option.some.injEq,reduceCtorEq] at hu
    rename_i hc;obtain⟨hdst,hver,hmap,hkey,he,hkk,hhl,hsh,hshv,hvl,hfo,hfz⟩:=hc;subst hu
    have hnn:nm ∉ nmL vc:=fun hm=>by
     simp only[Zb5,List.all_eq_true] at hfo;exact ZcB hmap (ZbO (hfo nm hm))
    obtain⟨kx,s1,s2⟩:=Zmw (h.eval hy) hsh hkc;obtain⟨vx,t1,t2⟩:=Zmw (h.eval hz) hshv hvc;obtain⟨f1,f2,f3⟩:=Zq0 he;have hvx0:=h.evalC hx;have hF:=Zl.freeze (nmL vc) h (viewL_box hus) hfo;have hvl2:=Zmu (Zk5 h t2 hus (l:=nmL vc) (fun _ h=>h));have hb':getB (ZZ st.boxes (Xw st.boxes (nmL vc))) nm=some b:=by rw[Zoy hnn]; exact hb
    have hslot:=hF.evalC (x:=x) hx;generalize hS':orS S (Yu bm st.boxes (nmL vc))=S' at hF hvl2 hslot;obtain⟨k,C,es,clock,hvx,_,hbm,hheap,_,hB,hph,hents⟩:=ZqZ hF hslot hb' hver hels
    have hrepk:ZU S' w kc kx:=by
     rw[← hS'];exact Zk.mono (Znc s2 (kKind_pure hkk)) fun _ _ h=>h.mono (fun _ _ h=>.inl h) (fun _ _ _=>rfl)
    have K:Zh9 P S' w kt ki b.e hd kc (a.eval y) kx ls es.toList:=⟨Zn (htt _ _ hki),hkey,s1,hrepk,hkk,hhl,f1,hents⟩
    have hck:=Zoe K false;have hfk:=ZoU K;have hut:=(Zn (htt _ _ hi)).map hk;have hkl:=kKind_len hkk;have hul:(nnL us).length=vc.length:=by rw[ZqU]; exact(viewL_pure hus).2
    have hent:∀ born,ZjV S' w b.e hd (kc++nnL us) ⟨a.eval y,a.eval z,born⟩:=fun born=>by
     refine⟨kx,vx,?_,?_,hrepk.append hvl2,?_,?_,?_⟩
     ·rw[f1]; exact s1
     ·rw[f2]; exact t1
     ·rw[← hkl,List.take_left]; exact hkk
     ·rw[← hrepk.length,hkl]
     ·rw[f3,← hvl2.length,hul,hvl]
    have key:∃ es' clock',(Instr.mapUpdate t (.map (some k)) (a.eval y) (a.eval z)).run P w = .ok () { w with heap:=w.heap.setIfInBounds k (.map es' clock') }∧Zk (ZjV S' w b.e hd) (ZgR ki.size kc (nnL us) ls) es'.toList:=by
     cases hh:ZhC ki.size kc ls es.toList 0 with
     | none =>
      rw[hh] at hfk;obtain⟨_,g2⟩:=Zoz (vs:=nnL us) hents hh;refine⟨es.push ⟨a.eval y,a.eval z,clock⟩,clock+1,by simp[Instr.mapUpdate,run_underlying hut,MapKept.run_getObj_map hheap,hck,hfk,MapKept.run_setObj_map _ hheap,Result.andThen],?_⟩;rw[g2];simp only[Array.toList_push];exact hents.append (.cons (hent clock) .nil)
     | some jv =>
      obtain⟨j,v⟩:=jv;rw[hh] at hfk;obtain⟨q,l,e,hj,g1,g2,g3,g4,_,g6⟩:=ZoA (vs:=nnL us) hents hh;have hjq:j=q:=by omega
      subst hjq;have hj':es[j]? = some e:=by simpa using g2
      obtain⟨e',g7,ekx,evx,e1,e2,e3,e4,e5,e6⟩:=hents.get g1;rw[g2] at g7;injection g7 with g7;subst g7
      have hsame:e.key=a.eval y:=by
       have hr:ZU S' w (l.take hd.length) ekx:=by
        have:=Zk.take e3 hd.length;rw[← e5,List.take_left] at this;rw[e5] at this;exact this
       rw[f1] at e1;rw[← hhl] at g4
       have hkx:kx=ekx:=by
        have hkey' := hkey;unfold Zh8 at hkey';split at hkey'
        ·simp only[Bool.and_eq_true] at hkey'
         have h1:=hkey'.1;unfold isStr1 at h1;split at h1
         ·rename_i s
          cases hrepk with
          | cons hr1 hr2 =>
           cases hr2
           cases hr1
           match hl2:l.take hd.length,hr,g4 with
           | [],_,g4=>simp[kEq] at g4
           | [c],hr,g4 =>
            cases hr with
            | cons hr _ =>
             rename_i hr';cases hr'
             cases c with
             | v cv=>cases cv with
              | string s' =>
               cases hr
               simp only[kEq,kEq1,Bool.and_true] at g4;rw[(MapKept.bytes_beq _ _).1 g4]
              | _=>simp[kEq,kEq1] at g4
             | _=>simp[kEq,kEq1] at g4
           | c :: c' :: l',_,g4=>simp[kEq] at g4
         ·simp at h1
        ·simp only[Bool.and_eq_true] at hkey'
         have:=kEq_int hkk e4 hkey'.2 hrepk hr;rw[g4] at this;exact valsEq_true this
       subst hkx;rw[Zj5 K.ty e1,Zj5 K.ty s1]
      have hst:=Zr2 K;refine⟨es.modify j fun e=>{ e with key:=a.eval y,val:=a.eval z },clock,by simp[Instr.mapUpdate,run_underlying hut,MapKept.run_getObj_map hheap,hck,hfk,hj',hsame,hst,MapKept.run_setObj_map _ hheap,Result.andThen],?_⟩;rw[g6];refine Zk.of_get (by simp[hents.length]) fun q l' x' hl' hx'=>?_
      have hjl:=Zm g1;simp only[List.getElem?_set] at hl';simp only[Array.getElem?_toList,Array.getElem?_modify] at hx';by_cases hjq:j=q
      ·subst hjq
       simp only[if_true,hjl] at hl';injection hl' with hl';subst hl';simp[hj'] at hx'
       subst hx';exact hent _
      ·simp only[hjq,if_false] at hl' hx'
       obtain⟨x2,h3,h4⟩:=hents.get hl'
       have:x2=x' := by
        have h5:es[q]? = some x2:=by simpa using h3
        rw[h5] at hx';injection hx'
       subst this;exact h4
    obtain⟨es',clock',hrun0,hents'⟩:=key
    have hrun:(execOp a.eval o).run P w = .ok .skip { w with heap:=w.heap.setIfInBounds k (.map es' clock') }:=by
     simp only[execOp,ho,hvx];simp[hrun0]
    obtain⟨hset1,hset2⟩:=ZvW (.map es' clock') hheap;have hS0:∀ o,¬ S' k o:=fun o hs=>by have:=(hB.free o hs).1; rw[hfz] at this; simp at this
    have hcell:∀ b' o,S' b' o→({ w with heap:=w.heap.setIfInBounds k (.map es' clock') }:World).cell? ⟨b',o,none⟩=w.cell? ⟨b',o,none⟩:=fun b' o hs=>by
     have:b'≠k:=by rintro rfl; exact hS0 o hs
     exact World.cell?_of_block (a:=⟨b',o,none⟩) (hset2 b' this)
    have hs:=hF.box1 (S' := S') (w' := { w with heap:=w.heap.setIfInBounds k (.map es' clock') }) nm { b with els:=hd :: ZgR ki.size kc (nnL us) ls } k C (fun b0 hb0=>by rw[hb'] at hb0; injection hb0 with hb0; subst hb0; exact⟨Nat.le_refl _,fun _=>⟨rfl,rfl,hbm.symm⟩⟩) (.inr ⟨C,b,hbm,hb'⟩)
     ⟨rfl,rfl,rfl,by simp,fun arr T h0=>by rw[hheap] at h0; cases h0⟩ (fun b' _ hb'=>hset2 b' hb') (fun _ _ h=>h) (fun o hs=>absurd hs (hS0 o)) (fun _ _ h=>.inl h) (Zaa hset1) (by
      refine⟨fun hm=>ZcB hmap hm,fun hf'=>(by simp only at hf'; rw[hfz] at hf'; simp at hf'),?_⟩;simp only[if_true]
      exact⟨hB.base,⟨fun hm=>ZcB hmap hm,fun _=>⟨es',clock',hd,_,hset1,rfl,hph,hfz,Zk.mono hents' fun _ _ h=>h.mono (fun _ _ h=>h) hcell⟩⟩,fun hm=>ZcB hmap hm,hB.cap,fun o hs=>absurd hs (hS0 o),fun hf'=>(by simp only at hf'; rw[hfz] at hf'; simp at hf'),hB.one⟩)
    have hbm':(fun m=>if m=nm then some (k,C) else bm m)=bm:=by
     funext m
     by_cases hm:m=nm
     ·subst hm; simp[hbm]
     ·simp[hm]
    rw[hbm'] at hs;refine Zov hrun ⟨S',bm,?_⟩;rw[hdst];simp only[Upd.app,Y5,setBs_append,ZZ,Act.put];exact hs
   ·simp at hu
  ·simp at hu
 ·simp at hu
theorem flat_ones:∀ ns:List Int,(ns.map (fun n=>[Cell.v (.int .u8 n)])).flatten=ns.map (fun n=>Cell.v (.int .u8 n))
 | []=>rfl
 | n :: ns=>by simp[flat_ones ns]
theorem bytesL_spec:∀ {els:List (List Cell)}{bs:List UInt8},bytesL els=some bs→∃ ns:List Int,els=ns.map (fun n=>[Cell.v (.int .u8 n)])∧bs=ns.map fun n=>UInt8.ofNat n.toNat
 | [],bs,h=>by simp[bytesL] at h; subst h; exact⟨[],rfl,rfl⟩
 | l :: els,bs,h=>by
  simp only[bytesL] at h;split at h <;> simp at h
  rename_i b bs' h1 h2;subst h;obtain⟨ns,rfl,rfl⟩:=bytesL_spec h2;unfold byteOf at h1;split at h1 <;> simp at h1
  rename_i n;exact⟨n :: ns,rfl,by simp[h1]⟩
theorem Zxc (htt:∀ t i,tt t=some i→Z0 P t=some i) (h:Zl G B ks w0 S0 S bm st a w){src dst:TypeId}{x:Operand}{u:Upd}(ho:o.op = .convert src dst x) (hu:eff tt T G o st.get st.boxes=some u):o.wp P a w (Sim G B ks w0 S0 (u.app st)) Q:=by
 unfold eff at hu;rw[ho] at hu;simp only at hu;split at hu
 ·rename_i i j c hi hj hx
  have hsi:=Zn (htt _ _ hi);have hsj:=Zn (htt _ _ hj);split at hu
  ·rename_i e hk hk2
   split at hu
   ·rename_i ej els hej hels
    split at hu
    case isFalse=>simp at hu
    rename_i hc;split at hu <;> simp only[Option.some.injEq,reduceCtorEq] at hu
    rename_i s hs;subst hu;have hus:=hsi.slice hk;have hud:=hsj.str hk2;have hue:=(Zn (htt _ _ hej)).int hc.2;unfold ZnL at hs;split at hs <;> simp only[Option.some.injEq,reduceCtorEq] at hs
    rename_i bs hbs;obtain⟨ns,rfl,rfl⟩:=bytesL_spec hbs;unfold Zh7 at hels;split at hels <;> simp only[Option.some.injEq,reduceCtorEq] at hels
    rename_i ow els' hview;subst hels;obtain⟨xa,cc,hv,hle,hrow⟩:=ZqT h (h.evalC hx) hview
    have hrun0:(convert src dst (a.eval x)).run P w = .ok (.string s) w:=by
     rw[hv];rcases Classical.em (ns=[]) with hn | hn
     ·subst hn
      rw[run_convert_bytes_string w src dst e xa _ cc hus hue hud,← hs];cases xa <;> simp[Conv.bytesToString,loadCells,loadCellsFrom] <;> rfl
     ·obtain⟨b2,o2,e2,row,rfl,_,g2,g3⟩:=hrow (by simpa using hn)
      have hflat:(ns.map (fun n=>[Cell.v (.int .u8 n)])).flatten=ns.map (fun n=>Cell.v (.int .u8 n)):=flat_ones ns;rw[hflat] at g2
      have:=run_convert_bytes_arg (P:=P) w src e hus hue b2 o2 (ns.map (fun n=>[Cell.v (.int .u8 n)])).length cc ns (by simp) (fun q hq=>by
       have hql:q<ns.length:=by simpa using hq
       obtain⟨v,h1,h2⟩:=g2.get (i:=q) (a:=.v (.int .u8 ns[q])) (by simp[hql]);cases h2
       rw[g3 q _ h1]
       simp[List.getD,hql]) dst hud
      rw[this,← hs];rfl
    have hrun:(execOp a.eval o).run P w = .ok (.value (.string s)) w:=by
     simp[execOp,ho,hrun0]
    exact Yi hrun ⟨S,bm,h.putDst o.dst (.base (.one (.pure (.v _ rfl (by simp)))))⟩
   ·simp at hu
  ·rename_i e hk hk2
   split at hu
   ·rename_i s ej hej
    split at hu <;> simp only[Option.some.injEq,reduceCtorEq] at hu
    rename_i hc;subst hu;have hus:=hsi.str hk;have hud:=hsj.slice hk2;have hue:=(Zn (htt _ _ hej)).int hc.2.1;have hv:=h.evalV hx;have hrun0:=Lib.run_convert_string_bytes (P:=P) w src dst e s hus hud hue
    have hrun:(execOp a.eval o).run P w = .ok (.value (.slice (some ⟨w.heap.size,0,none⟩) s.size (grownCap w s.size 0 e))) (Lib.bytesWorld w e s):=by
     simp[execOp,ho,hv,hrun0]
    have hsz:=Lib.bytesWorld_size w e s;have hold:∀ b o,S b o→(Lib.bytesWorld w e s).cell? ⟨b,o,none⟩=w.cell? ⟨b,o,none⟩:=fun b o hs=>Lib.bytesWorld_old w e s _ (h.slt _ _ hs)
    have hs:=h.change (S' := fun b o=>S b o∨(b=w.heap.size∧o<s.size)) (w' := Lib.bytesWorld w e s) (bm' := bm) (bx' := st.boxes) ZaX.refl (fun _ _ h=>.inl h) hold
     ⟨rfl,rfl,rfl,by omega,fun b hb _=>Lib.bytesWorld_at_old w e s b (Nat.lt_of_lt_of_le hb h.base),fun b arr T _ ha=>⟨arr,T,(Lib.bytesWorld_at_old w e s b (Zaa ha)).trans ha,Nat.le_refl _⟩⟩ (fun b o hs=>hs.imp id fun hs=>by rw[hs.1]; exact .inl h.base) (fun b o hs=>by
      rcases hs with hs | hs
      ·have:=h.slt _ _ hs; omega
      ·omega) (fun nm b hb=>.inl ⟨hb,rfl,fun k C hbm=>⟨Lib.bytesWorld_at_old w e s k ((h.boxes nm b hb).lt hbm),fun o hs=>hs.resolve_right fun hs=>by have:=(h.boxes nm b hb).lt hbm; omega⟩⟩) h.inj
    refine Yi hrun ⟨_,bm,hs.putDst o.dst (.base (.one (.pure ?_)))⟩;have hlen:(s.data.toList.map fun b=>[Cell.v (.int .u8 b.toNat)]).length=s.size:=by simp
    have hm:s.size≤maxLen:=by unfold maxLen; omega
    have:=Yn.slice (S:=fun b o=>S b o∨(b=w.heap.size∧o<s.size)) (w:=Lib.bytesWorld w e s) (s.data.toList.map fun b=>[Cell.v (.int .u8 b.toNat)]) (some ⟨w.heap.size,0,none⟩) (grownCap w s.size 0 e) 1 w.heap.size 0 (fun i _=>.int .u8 (s.data.toList.getD i 0).toNat)
     (by rw[hlen]; exact Zk7 w _ _ _) (grownCap_le_maxLen w _ _ _ hm) (by simp) (by omega) (fun _=>rfl) (fun q l hl j hj=>by
      have hq:=Zm hl;rw[hlen] at hq;obtain rfl:j=0:=by omega
      refine⟨.inr ⟨rfl,by omega⟩,?_⟩;rw[show 0+q * 1+0=q by omega];exact Lib.bytesWorld_cell w e s q hq) (fun q l hl j y hy=>by
      have hq:=Zm hl;rw[hlen] at hq;have hql:q<s.data.toList.length:=by simpa using hq
      rw[List.getElem?_map,List.getElem?_eq_getElem hql] at hl;simp only[Option.map_some,Option.some.injEq] at hl;subst hl;cases j with
      | zero =>
       simp only[List.getElem?_cons_zero,Option.some.injEq] at hy;subst hy;have:s.data.toList.getD q 0=s.data.toList[q]:=by rw[List.getD_eq_getElem?_getD,List.getElem?_eq_getElem hql]; rfl
       rw[this];exact .v _ rfl (by simp)
      | succ j=>simp at hy)
    rw[hlen] at this;exact this
   ·simp at hu
  ·split at hu <;> simp only[Option.some.injEq,reduceCtorEq] at hu
   rename_i p hp;subst hu;obtain⟨v,h1,h2⟩:=ZpP (o:=o) htt h (by rw[ho]; exact hp);exact Yi h1 ⟨S,bm,h.putDst o.dst h2⟩
 ·simp at hu
end
structure ZkH (S:Nat→Nat→Prop) (w:World) (N:Nat→Prop) (k C e:Nat) (els:List (List Cell)):Prop where
 new:N k
 blk:∃ arr T,w.heap[k]? = some (.cells arr T (0,0))∧C * e≤arr.size∧∀ (i:Nat) c v,els.flatten[i]? = some c→arr[i]? = some v→Yn S w c v
 room:els.length≤C
 cap:C≤maxLen
 len:∀ l∈els,l.length=e
 free:∀ o,¬ S k o
abbrev Item:=Option (Nat×Nat)
inductive ZfE (S:Nat→Nat→Prop) (w:World) (N:Nat→Prop):List Item→Cell→Value→Prop
 | pure {c v}:Yn S w c v→ZfE S w N [] c v
 | none (e:Nat) (x:Option Addr):ZfE S w N [none] (.own e []) (.slice x 0 0)
 | own (e:Nat) (els:List (List Cell)) (n k C:Nat):n=els.length→ZkH S w N k C e els→ZfE S w N [some (k,C)] (.own e els) (.slice (some ⟨k,0,Option.none⟩) n C)
inductive ZeX (S:Nat→Nat→Prop) (w:World) (N:Nat→Prop):List Item→List Cell→List Value→Prop
 | nil:ZeX S w N [] [] []
 | cons {i j c v cs vs}:ZfE S w N i c v→ZeX S w N j cs vs→ZeX S w N (i++j) (c :: cs) (v :: vs)
def ZoV (S:Nat→Nat→Prop) (w:World) (N:Nat→Prop) (its:List Item) (k:Nat) (cs:List Cell):Prop :=
 ∃ arr T us,w.heap[k]? = some (.cells arr T (0,0))∧(∀ (i:Nat) v,us[i]? = some v→arr[i]? = some v)∧ZeX S w N its cs us∧∀ o,¬ S k o
inductive ZiQ (S:Nat→Nat→Prop) (w:World) (N:Nat→Prop):List Item→PV→Value→Prop
 | one {i c v}:ZfE S w N i c v→ZiQ S w N i (.one c) v
 | agg {i cs vs}:ZeX S w N i cs vs→ZiQ S w N i (.agg cs) (.agg vs.toArray)
 | io {i}(cs:List Cell) (k:Nat):N k→ZoV S w N i k cs→ZiQ S w N (some (k,1) :: i) (.io cs) (.pointer (some ⟨k,0,Option.none⟩))
inductive ZkI (S:Nat→Nat→Prop) (w:World) (N:Nat→Prop):List Item→List PV→List Value→Prop
 | nil:ZkI S w N [] [] []
 | cons {i j p v ps vs}:ZiQ S w N i p v→ZkI S w N j ps vs→ZkI S w N (i++j) (p :: ps) (v :: vs)
inductive ZiR (S:Nat→Nat→Prop) (w:World) (N:Nat→Prop):List Item→PV→Value→Prop
 | base {i p v}:ZiQ S w N i p v→ZiR S w N i p v
 | tup {i ps vs}:ZkI S w N i ps vs→ZiR S w N i (.tup ps) (.tuple vs.toArray)
def Zq (l:List Item):List Nat:=l.filterMap fun i=>i.map (·.1)
inductive Zk9 (S:Nat→Nat→Prop) (w:World):PV→Value→Prop
 | one {c v}:Yn S w c v→Zk9 S w (.one c) v
 | agg {cs us}:ZU S w cs us→Zk9 S w (.agg cs) (.agg us.toArray)
 | ref {cs}(b o:Nat) (us:List Value):ZU S w cs us→(∀ j,j<us.length→S b (o+j))→Zcm w b o us→Zk9 S w (.ref cs) (.pointer (some ⟨b,o,Option.none⟩))
 | fn (f:FuncId):Zk9 S w (.fn f) (.func (.func f) #[] #[])
inductive Yf (S:Nat→Nat→Prop) (w:World):List Nat→List Nat→List PV→List Value→Prop
 | nil:Yf S w [] [] [] []
 | one {ks hs its c v ps vs}:ZfE S w (fun _=>True) its c v→Yf S w ks hs ps vs→Yf S w ks (Zq its++hs) (.one c :: ps) (v :: vs)
 | agg {ks hs its cs us ps vs}:ZeX S w (fun _=>True) its cs us→Yf S w ks hs ps vs→Yf S w ks (Zq its++hs) (.agg cs :: ps) (.agg us.toArray :: vs)
 | fn {ks hs f ps vs}:Yf S w ks hs ps vs→Yf S w ks hs (.fn f :: ps) (.func (.func f) #[] #[] :: vs)
 | ref {ks hs cs ps vs}(b o:Nat) (us:List Value):ZU S w cs us→(∀ j,j<us.length→S b (o+j))→Zcm w b o us→Yf S w ks hs ps vs→Yf S w ks hs (.ref cs :: ps) (.pointer (some ⟨b,o,none⟩) :: vs)
 | clo {ks hs f qs us ps vs}:Zk (Zk9 S w) qs us→Yf S w ks hs ps vs→Yf S w ks hs (.clo f qs :: ps) (.func (.func f) #[] us.toArray :: vs)
 | io {ks hs its cs k ps vs}:ZoV S w (fun _=>True) its k cs→Yf S w ks hs ps vs→Yf S w (k :: ks) (Zq its++hs) (.io cs :: ps) (.pointer (some ⟨k,0,none⟩) :: vs)
 | rio {ks hs e els n k C ps vs}:n=els.length→0<e→ZkH S w (fun _=>True) k C e els→Yf S w ks hs ps vs→Yf S w (k :: ks) hs (.rio e els :: ps) (.slice (some ⟨k,0,none⟩) n C :: vs)
 | rio0 {ks hs e k x ps vs}:0<e→w.heap.size≤k→Yf S w ks hs ps vs→Yf S w (k :: ks) hs (.rio e [] :: ps) (.slice x 0 0 :: vs)
def Zzl (S:Nat→Nat→Prop) (w:World) (k e:Nat) (els:List (List Cell)):Prop :=
 (∃ arr T,w.heap[k]? = some (.cells arr T (0,0))∧∀ (i:Nat) c v,els.flatten[i]? = some c→arr[i]? = some v→Yn S w c v)∧(∀ l∈els,l.length=e)∧∀ o,¬ S k o
inductive Zco (S:Nat→Nat→Prop) (w:World) (N:Nat→Prop) (B0:Nat):List Nat→List PV→List Value→List Item→List (List Cell)→Prop
 | nil:Zco S w N B0 [] [] [] [] []
 | skip {ks p v ps vs jts outs}:(∀ cs,p≠.io cs)→(∀ e els,p≠.rio e els)→Zco S w N B0 ks ps vs jts outs→Zco S w N B0 ks (p :: ps) (v :: vs) jts outs
 | io {k its ks cs0 cs ps vs jts outs}:ZoV S w N its k cs→Zco S w N B0 ks ps vs jts outs→Zco S w N B0 (k :: ks) (.io cs0 :: ps) (.pointer (some ⟨k,0,none⟩) :: vs) (its++jts) (cs :: outs)
 | rio {k e n C ks els0 els ps vs jts outs}:k<B0→Zzl S w k e els→els.length=els0.length→Zco S w N B0 ks ps vs jts outs→Zco S w N B0 (k :: ks) (.rio e els0 :: ps) (.slice (some ⟨k,0,none⟩) n C :: vs) jts (els.flatten :: outs)
 | rio0 {k e x ks ps vs jts outs}:B0≤k→Zco S w N B0 ks ps vs jts outs→Zco S w N B0 (k :: ks) (.rio e [] :: ps) (.slice x 0 0 :: vs) jts ([] :: outs)
structure ZnR (S S':Nat→Nat→Prop) (w w':World) (ks:List Nat):Prop where
 keep:XE w.heap.size ks w w'
 mono:∀ b o,S b o→S' b o
 fresh:∀ b o,S' b o→S b o∨w.heap.size≤b∨b∈ks
 slt:∀ b o,S' b o→b<w'.heap.size
def ZR (P:Program) (G:Glob) (f:FuncId) (F:List PV→Option (PV×List (List Cell))):Prop :=
 (∃ fn,P.funcs[f]? = some fn∧fn.body.isNone=false∧(fn.name == "runtime.NumGoroutine")=false) ∧
 ∀ (S:Nat→Nat→Prop) (w:World) (ks hs:List Nat) (ps:List PV) (vs:List Value) (r:PV) (outs:List (List Cell)),Zj3 G S w→(∀ b o,S b o→b<w.heap.size)→Yf S w ks hs ps vs→(ks++hs).Nodup→F ps=some (r,outs) →
  Calls P f vs.toArray w fun e w'=>∃ v S' its jts,e = .returned v∧ZiR S' w' (fun k=>w.heap.size≤k∨k∈hs) its r v∧Zco S' w' (fun k=>w.heap.size≤k∨k∈hs) w.heap.size ks ps vs jts outs∧(Zq jts++Zq its).Nodup∧ZnR S S' w w' (ks++hs)
def ZqI (P:Program) (G:Glob) (f:FuncId) (F:List PV→Option (PV×List (List Cell))):Prop :=
 ∀ (S:Nat→Nat→Prop) (w:World) (ks hs:List Nat) (ps:List PV) (vs:List Value) (r:PV) (outs:List (List Cell)),Zj3 G S w→(∀ b o,S b o→b<w.heap.size)→Yf S w ks hs ps vs→(ks++hs).Nodup→F ps=some (r,outs) →
  ∃ v S' its jts,(callFunc f vs.toArray).run P w = .ok (.value v) w∧ZiR S' w (fun k=>w.heap.size≤k∨k∈hs) its r v∧Zco S' w (fun k=>w.heap.size≤k∨k∈hs) w.heap.size ks ps vs jts outs∧(Zq jts++Zq its).Nodup∧ZnR S S' w w (ks++hs)
def Zd9 (P:Program) (G:Glob) (f:FuncId) (F:List PV→Option (PV×List (List Cell))):Prop:=ZR P G f F∨ZqI P G f F
structure Chg where
 nm:Nat
 b:Box
 x:Item
def Chg.nb (g:Chg):Nat×Box:=(g.nm,g.b)
def Zti (ch:List Chg) (c:Cell) (v:Value):Prop :=
 ∃ g,g∈ch∧∃ n y C',c = .ms g.nm g.b.ver 0 n g.b.e∧v = .slice y n C'∧g.b.row=true∧n≤C'∧C'≤maxLen∧(match g.x with | some (k,C)=>y=some ⟨k,0,none⟩∧C'=C | none=>n=0∧C'=0)
def ZhV (S:Nat→Nat→Prop) (w:World) (fz:Bool) (ch:List Chg) (c:Cell) (v:Value):Prop:=(Yn S w c v∧(fz=false→c.isSl=false))∨Zti ch c v
structure ZkJ (S:Nat→Nat→Prop) (w:World) (fz:Bool) (N:Nat→Prop) (ch:List Chg) (g:Chg):Prop where
 frz:g.b.frz=false
 len:∀ l∈g.b.els,l.length=g.b.e
 void:g.x=none→g.b.els=[]∧g.b.row=true
 blk:∀ k C,g.x=some (k,C)→N k∧(∃ arr T,w.heap[k]? = some (.cells arr T (0,0))∧C * g.b.e≤arr.size∧∀ (i:Nat) c v,g.b.els.flatten[i]? = some c→arr[i]? = some v→ZhV S w fz ch c v)∧g.b.els.length≤C∧C≤maxLen∧(g.b.row=false→C=1)∧∀ o,¬ S k o
theorem Zti.mono {ch ch':List Chg}{c:Cell}{v:Value}(h:Zti ch c v) (hs:∀ g∈ch,g∈ch'):Zti ch' c v:=let ⟨g,h1,h2⟩:=h; ⟨g,hs g h1,h2⟩
section
variable {P:Program}{tt:TT}{T:Tab}{G:Glob}{B:Nat}{ks:List Nat}{w0:World}{S0 S S' S2:Nat→Nat→Prop}{bm bm' bm2:BM}{bx bx2:Boxes}{st st':ASt}{a:Act}{w w':World}{Q:Exit→Act→World→Prop}{o:Oper}{N N':Nat→Prop}{fz:Bool}{ch ch':List Chg}
theorem ZhV.mono {c:Cell}{v:Value}(h:ZhV S w fz ch c v) (hs:∀ g∈ch,g∈ch'):ZhV S w fz ch' c v:=h.imp id (·.mono hs)
theorem ZkJ.mono {g:Chg}(h:ZkJ S w fz N ch g) (hs:∀ g∈ch,g∈ch') (hN:∀ k,N k→N' k):ZkJ S w fz N' ch' g:=by
 refine⟨h.frz,h.len,h.void,fun k C hx=>?_⟩;obtain⟨h1,⟨arr,T,h2,h3,h4⟩,h5⟩:=h.blk k C hx;exact⟨hN k h1,⟨arr,T,h2,h3,fun i c v hc hv=>(h4 i c v hc hv).mono hs⟩,h5⟩
theorem ZkH.less {k C c e:Nat}{els:List (List Cell)}(h:ZkH S w N k C e els) (hc:c≤C) (hl:els.length≤c):ZkH S w N k c e els:=by
 obtain⟨arr,T,h1,h2,h3⟩:=h.blk;exact⟨h.new,⟨arr,T,h1,Nat.le_trans (Nat.mul_le_mul_right _ hc) h2,h3⟩,hl,Nat.le_trans hc h.cap,h.len,h.free⟩
theorem ZkH.lt {k C e:Nat}{els:List (List Cell)}(h:ZkH S w N k C e els):k<w.heap.size:=let ⟨_,_,h1,_⟩:=h.blk; Zaa h1
theorem ZvX {c:Cell}{v:Value}(h:Yn S w c v) (hs:c.isSl=false):Yn S2 w' c v:=by
 cases h with
 | v _ h1 h2=>exact .v _ h1 h2
 | nil a=>exact .nil a
 | slice=>simp[Cell.isSl] at hs
theorem ZhV.repM {c:Cell}{v:Value}(h:ZhV S' w fz ch c v) (hS:fz=true→∀ b o,S' b o→S2 b o) (hch:∀ g∈ch,bm2 g.nm=g.x∧getB bx2 g.nm=some g.b∧ZB g.nm=false):ZW S2 w bm2 bx2 c v:=by
 rcases h with ⟨h1,h2⟩ | ⟨g,hg,n,y,C',rfl,rfl,hr,hn,hC,hx⟩
 ·cases hf:fz with
  | true=>exact .pure (h1.mono (hS hf) (fun _ _ _=>rfl))
  | false=>exact .pure (ZvX h1 (h2 hf))
 ·obtain⟨e1,e2,e3⟩:=hch g hg
  cases hgx:g.x with
  | none =>
   rw[hgx] at hx;obtain⟨rfl,rfl⟩:=hx;exact Zk8 (b:=g.b) e3 rfl hr (e1.trans hgx) e2
  | some kc =>
   obtain⟨k,C⟩:=kc;rw[hgx] at hx;obtain⟨rfl,rfl⟩:=hx;exact Zl4 (v:=undef) (b:=g.b) e3 rfl hr hn hC (e1.trans hgx) e2
def ZdH (S:Nat→Nat→Prop) (w:World) (fz:Bool) (N:Nat→Prop) (bx:Boxes) (ch:List Chg):Prop :=
 ∀ g∈ch,g.b.ver=Zr bx g.nm∧∀ ch',(∀ g∈ch,g∈ch')→ZkJ S w fz N ch' g
theorem ZdH.nil:ZdH S w fz N bx []:=by intro g hg; simp at hg
theorem ZdH.append (h:ZdH S w fz N bx ch) (h':ZdH S w fz N bx ch'):ZdH S w fz N bx (ch++ch'):=by
 intro g hg;rcases List.mem_append.1 hg with hg | hg
 ·exact⟨(h g hg).1,fun c hc=>(h g hg).2 c fun g' hg'=>hc g' (List.mem_append_left _ hg')⟩
 ·exact⟨(h' g hg).1,fun c hc=>(h' g hg).2 c fun g' hg'=>hc g' (List.mem_append_right _ hg')⟩
theorem ZfE.land {its:List Item}{c:Cell}{v:Value}(h:ZfE S' w' N its c v) (hs:fz=false→c.hasSl=false){f:Nat→Nat}{k:Nat}{cs:List Cell}{r:List Cell×List (Nat×Box)}(hr:YA bx f k (c :: cs)=r) :
  ∃ c' ch,r.1=c' :: (YA bx f (k+its.length) cs).1∧r.2=ch.map Chg.nb++(YA bx f (k+its.length) cs).2∧ch.map (·.x)=its∧ZdH S' w' fz N bx ch∧ZhV S' w' fz ch c' v:=by
 subst hr;cases h with
 | pure h =>
  refine⟨c,[],?_,?_,rfl,.nil,.inl ⟨h,fun hf=>?_⟩⟩
  ·cases h <;> rfl
  ·cases h <;> rfl
  ·have:=hs hf
   cases h <;> simpa[Cell.hasSl] using this
 | none e x =>
  refine⟨.ms (f k) (Zr bx (f k)) 0 0 e,[⟨f k,⟨Zr bx (f k),e,[],false,true⟩,Option.none⟩],rfl,rfl,rfl,?_,.inr ⟨⟨f k,⟨Zr bx (f k),e,[],false,true⟩,Option.none⟩,by simp,0,x,0,rfl,rfl,rfl,Nat.le_refl _,Nat.zero_le _,rfl,rfl⟩⟩;intro g hg;simp at hg
  subst hg;exact⟨rfl,fun ch' hc=>⟨rfl,by simp,fun _=>⟨rfl,rfl⟩,fun k C hx=>by simp at hx⟩⟩
 | own e els n kk C hn ho =>
  subst hn;refine⟨.ms (f k) (Zr bx (f k)) 0 els.length e,[⟨f k,⟨Zr bx (f k),e,els,false,true⟩,some (kk,C)⟩],rfl,rfl,rfl,?_,.inr ⟨⟨f k,⟨Zr bx (f k),e,els,false,true⟩,some (kk,C)⟩,by simp,els.length,_,C,rfl,rfl,rfl,ho.room,ho.cap,rfl,rfl⟩⟩;intro g hg;simp at hg
  subst hg;refine⟨rfl,fun ch' hc=>⟨rfl,ho.len,fun hx=>by simp at hx,fun k C' hx=>?_⟩⟩;simp at hx
  obtain⟨rfl,rfl⟩:=hx;obtain⟨arr,T,a1,a2,a3⟩:=ho.blk;refine⟨ho.new,⟨arr,T,a1,a2,fun i c v hc hv=>.inl ⟨a3 i c v hc hv,fun hf=>?_⟩⟩,ho.room,ho.cap,fun hf=>by simp at hf,ho.free⟩;have h1:=hs hf;simp only[Cell.hasSl,List.any_eq_false] at h1;obtain⟨l,hl,hcl⟩:=List.mem_flatten.1 (List.mem_of_getElem? hc);have:=h1 l hl;simp only[List.any_eq_true,not_exists,not_and] at this;exact Bool.eq_false_iff.2 (this c hcl)
theorem ZeX.land {its:List Item}{cs:List Cell}{vs:List Value}(h:ZeX S' w' N its cs vs) (hs:fz=false→hasSlL cs=false):∀ {f:Nat→Nat}{k:Nat},
  ∃ ch,(YA bx f k cs).2=ch.map Chg.nb∧ch.map (·.x)=its∧ZdH S' w' fz N bx ch∧Zk (ZhV S' w' fz ch) (YA bx f k cs).1 vs:=by
 induction h with
 | nil=>intro f k; exact⟨[],rfl,rfl,.nil,.nil⟩
 | cons h _ ih =>
  rename_i i j c v cs vs _;intro f k;obtain⟨c',ch1,e1,e2,e3,e4,e5⟩:=h.land (bx:=bx) (fz:=fz) (fun hf=>by have:=hs hf; simp only[hasSlL,List.any_cons,Bool.or_eq_false_iff] at this; exact this.1) (f:=f) (k:=k) (cs:=cs) rfl;obtain⟨ch2,f1,f2,f3,f4⟩:=ih (fun hf=>by have:=hs hf; simp only[hasSlL,List.any_cons,Bool.or_eq_false_iff] at this; exact this.2) (f:=f) (k:=k+i.length);refine⟨ch1++ch2,by rw[e2,f1,List.map_append],by rw[List.map_append,e3,f2],e4.append f3,?_⟩;rw[e1];exact .cons (e5.mono fun g hg=>List.mem_append_left _ hg) (Zk.mono f4 fun _ _ h=>h.mono fun g hg=>List.mem_append_right _ hg)
theorem Znd {f:Nat→Nat}:∀ {k:Nat}{cs:List Cell},(YA bx f k cs).1.length=cs.length
 | k,[]=>rfl
 | k,c :: cs=>by cases c <;> simp[YA,Znd]
theorem ZoV.land {its:List Item}{k:Nat}{cs:List Cell}(h:ZoV S' w' N its k cs) (hs:fz=false→hasSlL cs=false){nm:Nat} :
  ∃ ch,(YA bx (ioN nm) 0 cs).2=ch.map Chg.nb∧ch.map (·.x)=its∧ZdH S' w' fz N bx ch∧∀ ch',(∀ g∈ch,g∈ch')→∀ {M:Nat→Prop},M k→∀ ver,ZkJ S' w' fz M ch' ⟨nm,⟨ver,cs.length,[(YA bx (ioN nm) 0 cs).1],false,false⟩,some (k,1)⟩:=by
 obtain⟨arr,T,us,h1,h2,h3,h4⟩:=h;obtain⟨ch,f1,f2,f3,f4⟩:=h3.land (bx:=bx) hs (f:=ioN nm) (k:=0);refine⟨ch,f1,f2,f3,fun ch' hch M hM ver=>⟨rfl,by simp[Znd],fun hx=>by simp at hx,fun k' C hx=>?_⟩⟩;simp at hx
 obtain⟨rfl,rfl⟩:=hx;have hul:us.length=cs.length:=by have:=f4.length; rw[Znd] at this; omega
 have hle:us.length≤arr.size:=by
  rcases Nat.eq_zero_or_pos us.length with h0 | h0
  ·omega
  ·have hg:us[us.length-1]? = some (us[us.length-1]'(by omega)):=List.getElem?_eq_getElem (by omega)
   have:=h2 _ _ hg;have:=(Array.getElem?_eq_some_iff.1 this).1;omega
 refine⟨hM,⟨arr,T,h1,by simp only; omega,fun i c v hc hv=>?_⟩,by simp,by unfold maxLen; omega,fun _=>rfl,h4⟩;simp at hc
 obtain⟨u,hu,hr⟩:=f4.get hc;have:=h2 i u hu;rw[hv] at this;injection this with this;subst this;exact hr.mono hch
end
section
variable {P:Program}{tt:TT}{T:Tab}{G:Glob}{B:Nat}{ks:List Nat}{w0:World}{S0 S S' S2:Nat→Nat→Prop}{bm bm' bm2:BM}{bx bx2:Boxes}{st st':ASt}{a:Act}{w w':World}{Q:Exit→Act→World→Prop}{o:Oper}{N N':Nat→Prop}{fz:Bool}{ch ch':List Chg}
theorem nodupB_spec:∀ {l:List Nat},nodupB l=true→l.Nodup
 | [],_=>List.nodup_nil
 | x :: l,h=>by
  simp[nodupB] at h
  exact List.nodup_cons.2 ⟨by simpa using h.1,nodupB_spec h.2⟩
theorem getB_setBs_mem:∀ {l:List (Nat×Box)}{bx:Boxes}{nm:Nat}{b:Box},(∀ x∈l,∀ y∈l,x.1=y.1→x.2=y.2)→(nm,b)∈l→getB (ZZ bx l) nm=some b
 | [],bx,nm,b,_,h=>by simp at h
 | (m,c) :: l,bx,nm,b,hc,h=>by
  simp only[ZZ];by_cases hm:∃ b',(nm,b')∈l
  ·obtain⟨b',hb'⟩:=hm
   have:b'=b:=hc (nm,b') (by simp[hb']) (nm,b) h rfl;subst this;exact getB_setBs_mem (fun x hx y hy=>hc x (by simp[hx]) y (by simp[hy])) hb'
  ·have hnl:∀ x∈l,x.1≠nm:=fun x hx he=>hm ⟨x.2,by rw[← he]; exact hx⟩
   rw[Zhi hnl];rcases List.mem_cons.1 h with h | h
   ·injection h with h1 h2
    subst h1 h2;exact getB_self
   ·exact absurd ⟨b,h⟩ hm
theorem getB_setBs_inv:∀ {l:List (Nat×Box)}{bx:Boxes}{nm:Nat}{b:Box},getB (ZZ bx l) nm=some b→(∃ b',(nm,b')∈l)∨((∀ x∈l,x.1≠nm)∧getB bx nm=some b):=by
 intro l bx nm b h;by_cases hm:∃ b',(nm,b')∈l
 ·exact .inl hm
 ·have hnl:∀ x∈l,x.1≠nm:=fun x hx he=>hm ⟨x.2,by rw[← he]; exact hx⟩
  exact .inr ⟨hnl,by rw[Zhi hnl] at h; exact h⟩
theorem frzL_spec:∀ {l:List Nat}{x:Nat×Box},x∈Xw bx l→x.1∈l∧∃ b,getB bx x.1=some b∧x.2 = { b with frz:=true }
 | [],x,h=>by simp[Xw] at h
 | nm :: l,x,h=>by
  simp only[Xw] at h;split at h
  ·rename_i b hb
   rcases List.mem_cons.1 h with rfl | h
   ·exact⟨by simp,b,hb,rfl⟩
   ·obtain⟨h1,h2⟩:=frzL_spec h
    exact⟨by simp[h1],h2⟩
  ·obtain⟨h1,h2⟩:=frzL_spec h
   exact⟨by simp[h1],h2⟩
theorem frzL_mem:∀ {l:List Nat}{nm:Nat}{b:Box},nm∈l→getB bx nm=some b→(nm,{ b with frz:=true })∈Xw bx l
 | [],nm,b,h,_=>by simp at h
 | m :: l,nm,b,h,hb=>by
  simp only[Xw];rcases List.mem_cons.1 h with rfl | h
  ·rw[hb]; simp
  ·split
   ·exact List.mem_cons_of_mem _ (frzL_mem h hb)
   ·exact frzL_mem h hb
theorem Zk9.toB {p:PV}{v:Value}(h:Zk9 S w p v):Zd8 S w bm bx p v:=by
 cases h with
 | one h=>exact .one (.pure h)
 | agg h=>exact .agg (ZU.toM h)
 | ref b o us h1 h2 h3=>exact .ref b o us h1 h2 h3
 | fn f=>exact .fn f
theorem ZpT (h:Zl G B ks w0 S0 S bm st a w){lent:List Nat}:∀ {ps qs:List PV}{vs:List Value},Zk (Zd8 S w bm st.boxes) ps vs→ZkE st.boxes ps=some qs→(∀ nm∈ps.flatMap nmK,nm∈lent) →
  Zk (Zk9 (orS S (Yu bm st.boxes lent)) w) qs vs∧∀ nm∈ps.flatMap nmK,∃ b,getB st.boxes nm=some b∧ZH b.els=true
 | [],qs,vs,hr,hq,_=>by cases hr; simp[ZkE] at hq; subst hq; exact⟨.nil,by simp⟩
 | p :: ps,qs,vs,hr,hq,hl=>by
  cases hr with
  | cons hr1 hr2 =>
   rename_i v vs;simp only[ZkE] at hq;split at hq <;> simp at hq
   rename_i q qs' hq1 hq2;subst hq;obtain⟨i1,i3⟩:=ZpT h hr2 hq2 (fun nm hn=>hl nm (by simp only[List.flatMap_cons,List.mem_append]; exact .inr hn));have hl1:∀ nm∈nmK p,nm∈lent:=fun nm hn=>hl nm (by simp only[List.flatMap_cons,List.mem_append]; exact .inl hn)
   have key:Zk9 (orS S (Yu bm st.boxes lent)) w q v∧∀ nm∈nmK p,∃ b,getB st.boxes nm=some b∧ZH b.els=true:=by
    cases hr1 with
    | one hr1 =>
     simp only[Zj9,Option.map_eq_some_iff] at hq1;obtain⟨c',hc',rfl⟩:=hq1;exact⟨.one (Zjp h hr1 hc' hl1),fun nm hn=>ZlB hc' nm hn⟩
    | agg hr1 =>
     simp only[Zj9,Option.map_eq_some_iff] at hq1;obtain⟨cs',hc',rfl⟩:=hq1;exact⟨.agg (Zk5 h hr1 hc' hl1),fun nm hn=>viewL_box hc' nm hn⟩
    | ref b o us h1 h2 h3 =>
     simp[Zj9] at hq1
     subst hq1;exact⟨.ref b o us (Zk.mono h1 fun _ _ h=>h.mono (fun _ _ h=>.inl h) (fun _ _ _=>rfl)) (fun j hj=>.inl (h2 j hj)) h3,by simp[nmK]⟩
    | fn f =>
     simp[Zj9] at hq1
     subst hq1;exact⟨.fn f,by simp[nmK]⟩
    | ptr nm ver i off e k hm hk =>
     unfold Zj9 at hq1;split at hq1
     all_goals first
      | (rename_i heq; cases heq; done)
      | (simp at hq1; done)
      | skip
     rename_i nm' ver' e' heq;injection heq with e1 e2 e3 e4 e5;subst e1 e2 e3 e4 e5;split at hq1
     ·rename_i b hb
      split at hq1
      ·rename_i cs hels
       split at hq1 <;> simp at hq1
       rename_i hc;subst hq1;obtain⟨hver,hrow,_,hpu⟩:=hc;obtain⟨b',q1,q2,q3⟩:=hk;rw[hb] at q1;injection q1 with q1;subst q1;obtain⟨_,C,hbm⟩:=q3 hver;have hfl:b.els.flatten=cs:=by rw[hels]; simp
       obtain⟨row,g1,g2⟩:=h.rowOf hm hb hbm (by rw[hfl]; exact hpu);rw[hfl] at g1;refine⟨?_,fun m hn=>?_⟩
       ·have:=Zk9.ref (S:=orS S (Yu bm st.boxes lent)) (w:=w) (cs:=cs) k 0 row (Zk.mono g1 fun _ _ h=>h.mono (fun _ _ h=>.inl h) (fun _ _ _=>rfl)) (fun j hj=>.inr ⟨nm,hl1 nm (by simp[nmK]),b,C,hb,hbm,by rw[hfl,g1.length]; omega⟩) g2
        simpa using this
       ·simp[nmK] at hn
        subst hn;exact⟨b,hb,by rw[hels]; simp[ZH,hpu]⟩
      ·simp at hq1
     ·simp at hq1
   refine⟨.cons key.1 i1,fun nm hn=>?_⟩;simp only[List.flatMap_cons,List.mem_append] at hn;rcases hn with hn | hn
   ·exact key.2 nm hn
   ·exact i3 nm hn
def XO (bm:BM) (l:List Nat):List Nat:=l.filterMap fun nm=>(bm nm).map (·.1)
theorem Ym (i j:List Item):Zq (i++j)=Zq i++Zq j:=by simp[Zq]
theorem Zb7 (i j:List Nat):XO bm (i++j)=XO bm i++XO bm j:=by simp[XO]
theorem Zmx (h:Zl G B ks w0 S0 S bm st a w):∀ {l:List Nat},l.Nodup→(∀ nm∈l,∃ b,getB st.boxes nm=some b)→(XO bm l).Nodup
 | [],_,_=>by simp[XO]
 | nm :: l,hn,hb=>by
  rw[List.nodup_cons] at hn;have ih:=Zmx h hn.2 (fun m hm=>hb m (by simp[hm]));cases hbm:bm nm with
  | none =>
   have:XO bm (nm :: l)=XO bm l:=by simp[XO,hbm]
   rw[this];exact ih
  | some kc =>
   obtain⟨k,C⟩:=kc;have:XO bm (nm :: l)=k :: XO bm l:=by simp[XO,hbm]
   rw[this,List.nodup_cons];refine⟨fun hm=>?_,ih⟩;simp only[XO,List.mem_filterMap,Option.map_eq_some_iff] at hm;obtain⟨m,hm,⟨k',C'⟩,h2,h3⟩:=hm;simp only at h3;subst h3;obtain⟨b,g1⟩:=hb nm (by simp);obtain⟨b',g2⟩:=hb m (by simp[hm]);have:=h.inj nm m b b' k' C C' g1 g2 hbm h2;subst this;exact hn.1 hm
inductive ZiS (S:Nat→Nat→Prop) (w:World) (fz:Bool) (ch:List Chg):PV→Value→Prop
 | one {c v}:ZhV S w fz ch c v→ZiS S w fz ch (.one c) v
 | agg {cs vs}:Zk (ZhV S w fz ch) cs vs→ZiS S w fz ch (.agg cs) (.agg vs.toArray)
 | ptr (g:Chg) (k e:Nat):g∈ch→g.x=some (k,1)→ZiS S w fz ch (.ptr g.nm g.b.ver 0 0 e) (.pointer (some ⟨k,0,none⟩))
theorem ZiS.mono {p:PV}{v:Value}(h:ZiS S w fz ch p v) (hs:∀ g∈ch,g∈ch'):ZiS S w fz ch' p v:=by
 cases h with
 | one h=>exact .one (h.mono hs)
 | agg h=>exact .agg (Zk.mono h fun _ _ h=>h.mono hs)
 | ptr g k e h1 h2=>exact .ptr g k e (hs g h1) h2
theorem ZiS.repB {p:PV}{v:Value}(h:ZiS S' w fz ch p v) (hS:fz=true→∀ b o,S' b o→S2 b o) (hch:∀ g∈ch,bm2 g.nm=g.x∧getB bx2 g.nm=some g.b∧ZB g.nm=false):ZaK S2 w bm2 bx2 p v:=by
 cases h with
 | one h=>exact .one (h.repM hS hch)
 | agg h=>exact .agg (Zk.mono h fun _ _ h=>h.repM hS hch)
 | ptr g k e h1 h2 =>
  obtain⟨e1,e2,e3⟩:=hch g h1;have:=ZaK.ptr (S:=S2) (w:=w) (bm:=bm2) (bx:=bx2) g.nm g.b.ver 0 0 e k e3 ⟨_,e2,Nat.le_refl _,fun _=>⟨.inl rfl,1,e1.trans h2⟩⟩;simpa using this
theorem ZiQ.land {its:List Item}{p:PV}{v:Value}(h:ZiQ S' w' N its p v) (hs:fz=false→hasSlP p=false){d k:Nat}{q:PV}{bs:List (Nat×Box)}{k':Nat}(hq:Zhg bx d k p=some (q,bs,k')) :
  ∃ ch,bs=ch.map Chg.nb∧ch.map (·.x)=its∧ZdH S' w' fz N bx ch∧ZiS S' w' fz ch q v:=by
 cases h with
 | one h =>
  rename_i c;obtain⟨c',ch,e1,e2,e3,e4,e5⟩:=h.land (bx:=bx) (fz:=fz) hs (f:=fun k=>d+100000 * k) (k:=k) (cs:=[]) rfl;simp only[Zhg] at hq;split at hq <;> simp at hq
  rename_i c2 bs2 heq;rw[heq] at e1 e2;simp[YA] at e1 e2
  obtain⟨rfl,rfl,rfl⟩:=hq;subst e1 e2;exact⟨ch,rfl,e3,e4,.one e5⟩
 | agg h =>
  rename_i cs vs;obtain⟨ch,f1,f2,f3,f4⟩:=h.land (bx:=bx) (fz:=fz) hs (f:=fun k=>d+100000 * k) (k:=k);simp only[Zhg] at hq;simp at hq
  obtain⟨rfl,rfl,rfl⟩:=hq;exact⟨ch,f1,f2,f3,.agg f4⟩
 | io cs kk hN hv =>
  obtain⟨ch,f1,f2,f3,f4⟩:=hv.land (bx:=bx) (fz:=fz) hs (nm:=d+100000 * k);simp only[Zhg] at hq;simp at hq
  obtain⟨rfl,rfl,rfl⟩:=hq;refine⟨⟨d+100000 * k,⟨Zr bx (d+100000 * k),cs.length,[(YA bx (ioN (d+100000 * k)) 0 cs).1],false,false⟩,some (kk,1)⟩ :: ch,by rw[f1]; rfl,by simp[f2],?_,?_⟩
  ·intro g hg
   rcases List.mem_cons.1 hg with rfl | hg
   ·exact⟨rfl,fun ch' hc=>f4 ch' (fun g hg=>hc g (List.mem_cons_of_mem _ hg)) hN _⟩
   ·exact⟨(f3 g hg).1,fun ch' hc=>(f3 g hg).2 ch' fun g hg=>hc g (List.mem_cons_of_mem _ hg)⟩
  ·exact .ptr ⟨d+100000 * k,⟨Zr bx (d+100000 * k),cs.length,[(YA bx (ioN (d+100000 * k)) 0 cs).1],false,false⟩,some (kk,1)⟩ kk cs.length (by simp) rfl
theorem ZkI.land {its:List Item}{ps:List PV}{vs:List Value}(h:ZkI S' w' N its ps vs) (hs:fz=false→ps.any hasSlP=false):∀ {d k:Nat}{qs:List PV}{bs:List (Nat×Box)},ZhR bx d k ps=some (qs,bs) →
  ∃ ch,bs=ch.map Chg.nb∧ch.map (·.x)=its∧ZdH S' w' fz N bx ch∧Zk (ZiS S' w' fz ch) qs vs:=by
 induction h with
 | nil=>intro d k qs bs hq; simp[ZhR] at hq; obtain⟨rfl,rfl⟩:=hq; exact⟨[],rfl,rfl,.nil,.nil⟩
 | cons h _ ih =>
  rename_i i j p v ps vs _;intro d k qs bs hq;simp only[ZhR] at hq;split at hq
  ·rename_i q b1 k' hq1
   split at hq <;> simp at hq
   rename_i qs2 b2 hq2;obtain⟨rfl,rfl⟩:=hq;obtain⟨c1,e1,e2,e3,e4⟩:=h.land (fz:=fz) (fun hf=>by have:=hs hf; simp only[List.any_cons,Bool.or_eq_false_iff] at this; exact this.1) hq1;obtain⟨c2,f1,f2,f3,f4⟩:=ih (fun hf=>by have:=hs hf; simp only[List.any_cons,Bool.or_eq_false_iff] at this; exact this.2) hq2;refine⟨c1++c2,by rw[e1,f1,List.map_append],by rw[List.map_append,e2,f2],e3.append f3,.cons (e4.mono fun g hg=>List.mem_append_left _ hg) (Zk.mono f4 fun _ _ h=>h.mono fun g hg=>List.mem_append_right _ hg)⟩
  ·simp at hq
inductive ZoW (S:Nat→Nat→Prop) (w:World) (fz:Bool) (ch:List Chg):PV→Value→Prop
 | base {p v}:ZiS S w fz ch p v→ZoW S w fz ch p v
 | tup {ps vs}:Zk (ZiS S w fz ch) ps vs→ZoW S w fz ch (.tup ps) (.tuple vs.toArray)
theorem ZoW.repV {p:PV}{v:Value}(h:ZoW S' w fz ch p v) (hS:fz=true→∀ b o,S' b o→S2 b o) (hch:∀ g∈ch,bm2 g.nm=g.x∧getB bx2 g.nm=some g.b∧ZB g.nm=false):X9 S2 w bm2 bx2 p v:=by
 cases h with
 | base h=>exact .base (h.repB hS hch)
 | tup h=>exact .tup (Zk.mono h fun _ _ h=>h.repB hS hch)
theorem ZiR.land {its:List Item}{r:PV}{v:Value}(h:ZiR S' w' N its r v) (hs:fz=false→hasSlR r=false){d:Nat}{q:PV}{bs:List (Nat×Box)}(hq:ZkF bx d r=some (q,bs)) :
  ∃ ch,bs=ch.map Chg.nb∧ch.map (·.x)=its∧ZdH S' w' fz N bx ch∧ZoW S' w' fz ch q v:=by
 cases h with
 | base h =>
  have hnt:∀ ps,r≠.tup ps:=by rintro ps rfl; cases h
  unfold ZkF at hq;split at hq
  ·exact absurd rfl (hnt _)
  ·split at hq <;> simp at hq
   rename_i q' bs' k' hq1;obtain⟨rfl,rfl⟩:=hq
   obtain⟨ch,e1,e2,e3,e4⟩:=h.land (fz:=fz) (fun hf=>by
    have:=hs hf;unfold hasSlR at this;split at this
    ·exact absurd rfl (hnt _)
    ·exact this) hq1
   exact⟨ch,e1,e2,e3,.base e4⟩
 | tup h =>
  simp only[ZkF] at hq;split at hq <;> simp at hq
  rename_i qs bs' hq1;obtain⟨rfl,rfl⟩:=hq;obtain⟨ch,e1,e2,e3,e4⟩:=h.land (fz:=fz) hs hq1;exact⟨ch,e1,e2,e3,.tup e4⟩
inductive IoV (bm:BM) (bx:Boxes) (B0:Nat):List Nat→List Nat→List PV→List Value→Prop
 | nil:IoV bm bx B0 [] [] [] []
 | skip {ios ks p v ps vs}:(∀ cs,p≠.io cs)→(∀ e els,p≠.rio e els)→IoV bm bx B0 ios ks ps vs→IoV bm bx B0 ios ks (p :: ps) (v :: vs)
 | io {nm k b cs ios ks ps vs}:getB bx nm=some b→bm nm=some (k,1)→k<B0→b.frz=false→b.row=false→ZB nm=false→IoV bm bx B0 ios ks ps vs→IoV bm bx B0 (nm :: ios) (k :: ks) (.io cs :: ps) (.pointer (some ⟨k,0,none⟩) :: vs)
 | rio {nm k c C b n e els ios ks ps vs}:b.e=e→b.els=els→getB bx nm=some b→bm nm=some (k,C)→k<B0→b.frz=false→b.row=true→ZB nm=false→0<b.e→b.els.length≤C→C≤maxLen→IoV bm bx B0 ios ks ps vs→IoV bm bx B0 (nm :: ios) (k :: ks) (.rio e els :: ps) (.slice (some ⟨k,0,none⟩) n c :: vs)
 | rio0 {nm b x e ios ks ps vs}:b.e=e→getB bx nm=some b→bm nm=none→b.frz=false→b.row=true→ZB nm=false→0<b.e→b.els=[]→IoV bm bx B0 ios ks ps vs→IoV bm bx B0 (nm :: ios) ((B0+ps.length) :: ks) (.rio e [] :: ps) (.slice x 0 0 :: vs)
theorem IoV.box {B0:Nat}{ios ks0:List Nat}{ps:List PV}{vs:List Value}(h:IoV bm bx B0 ios ks0 ps vs):∀ nm∈ios,∃ b,getB bx nm=some b∧b.frz=false∧ZB nm=false:=by
 induction h with
 | nil=>simp
 | skip _ _ _ ih=>exact ih
 | io h1 h2 h3 h4 h5 h6 _ ih=>intro m hm; rcases List.mem_cons.1 hm with rfl | hm; exact⟨_,h1,h4,h6⟩; exact ih m hm
 | rio _ _ h1 h2 h3 h4 h5 h6 h7 h8 h9 _ ih=>intro m hm; rcases List.mem_cons.1 hm with rfl | hm; exact⟨_,h1,h4,h6⟩; exact ih m hm
 | rio0 _ h1 h2 h3 h4 h5 h6 h7 _ ih=>intro m hm; rcases List.mem_cons.1 hm with rfl | hm; exact⟨_,h1,h3,h5⟩; exact ih m hm
theorem IoV.blk {B0:Nat}{ios ks0:List Nat}{ps:List PV}{vs:List Value}(h:IoV bm bx B0 ios ks0 ps vs):∀ k∈ks0,(k<B0∧∃ nm b C,nm∈ios∧getB bx nm=some b∧bm nm=some (k,C)∧b.frz=false∧ZB nm=false)∨(B0≤k∧k<B0+ps.length):=by
 induction h with
 | nil=>simp
 | skip _ _ _ ih =>
  intro k hk;rcases ih k hk with h | h
  ·exact .inl h
  ·exact .inr ⟨h.1,by simp only[List.length_cons]; omega⟩
 | io h1 h2 h3 h4 h5 h6 _ ih =>
  intro q hq;rcases List.mem_cons.1 hq with rfl | hq
  ·exact .inl ⟨h3,_,_,_,by simp,h1,h2,h4,h6⟩
  ·rcases ih q hq with ⟨g1,nm,b,C,g2,g3⟩ | h
   ·exact .inl ⟨g1,nm,b,C,List.mem_cons_of_mem _ g2,g3⟩
   ·exact .inr ⟨h.1,by simp only[List.length_cons]; omega⟩
 | rio _ _ h1 h2 h3 h4 h5 h6 h7 h8 h9 _ ih =>
  intro q hq;rcases List.mem_cons.1 hq with rfl | hq
  ·exact .inl ⟨h3,_,_,_,by simp,h1,h2,h4,h6⟩
  ·rcases ih q hq with ⟨g1,nm,b,C,g2,g3⟩ | h
   ·exact .inl ⟨g1,nm,b,C,List.mem_cons_of_mem _ g2,g3⟩
   ·exact .inr ⟨h.1,by simp only[List.length_cons]; omega⟩
 | rio0 _ h1 h2 h3 h4 h5 h6 h7 _ ih =>
  intro q hq;rcases List.mem_cons.1 hq with rfl | hq
  ·exact .inr ⟨by omega,by simp only[List.length_cons]; omega⟩
  ·rcases ih q hq with ⟨g1,nm,b,C,g2,g3⟩ | h
   ·exact .inl ⟨g1,nm,b,C,List.mem_cons_of_mem _ g2,g3⟩
   ·exact .inr ⟨h.1,by simp only[List.length_cons]; omega⟩
theorem IoV.nodup (h0:Zl G B ks w0 S0 S bm st a w){B0:Nat}{ios ks0:List Nat}{ps:List PV}{vs:List Value}(h:IoV bm st.boxes B0 ios ks0 ps vs) (hn:ios.Nodup):ks0.Nodup:=by
 induction h with
 | nil=>exact List.nodup_nil
 | skip _ _ _ ih=>exact ih hn
 | io h1 h2 h3 h4 h5 h6 h7 ih =>
  rw[List.nodup_cons] at hn;refine List.nodup_cons.2 ⟨fun hm=>?_,ih hn.2⟩;rcases h7.blk _ hm with ⟨_,nm,b,C,g2,g3,g4,_⟩ | h
  ·have:=h0.inj _ nm _ b _ _ C h1 g3 h2 g4
   exact hn.1 (this ▸ g2)
  ·omega
 | rio _ _ h1 h2 h3 h4 h5 h6 h7 h8 h9 h10 ih =>
  rw[List.nodup_cons] at hn;refine List.nodup_cons.2 ⟨fun hm=>?_,ih hn.2⟩;rcases h10.blk _ hm with ⟨_,nm,b,C,g2,g3,g4,_⟩ | h
  ·have:=h0.inj _ nm _ b _ _ C h1 g3 h2 g4
   exact hn.1 (this ▸ g2)
  ·omega
 | rio0 _ h1 h2 h3 h4 h5 h6 h7 h8 ih =>
  rw[List.nodup_cons] at hn;refine List.nodup_cons.2 ⟨fun hm=>?_,ih hn.2⟩;rcases h8.blk _ hm with h | h
  ·omega
  ·omega
theorem Zkb {e:Nat}:∀ {els:List (List Cell)},(∀ l∈els,l.length=e)→Zap e els.length els.flatten=els
 | [],_=>rfl
 | l :: els,h=>by
  have hl:=h l (by simp);simp only[List.length_cons,Zap,List.flatten_cons];rw[List.take_left' hl,List.drop_left' hl,Zkb fun x hx=>h x (List.mem_cons_of_mem _ hx)]
theorem Zco.land {KS:List Nat}{B0:Nat}{ks0 ios:List Nat}{qs:List PV}{vs:List Value}(hi:IoV bm bx B0 ios ks0 qs vs) (hB0:B0=w.heap.size) (hkp:XE B0 KS w w') (hks:∀ k∈ks0,k∈KS) (hold:∀ nm b k C,getB bx nm=some b→bm nm=some (k,C)→ZB nm=false→∃ arr T,w.heap[k]? = some (.cells arr T (0,0))∧C * b.e≤arr.size) :
  ∀ {jts:List Item}{outs:List (List Cell)},Zco S' w' N B0 ks0 qs vs jts outs→(fz=false→outs.any hasSlL=false)→∀ {bo br:List (Nat×Box)},ZfC bx ios outs=some (bo,br) →
  ∃ (co cr:List Chg),bo=co.map Chg.nb∧br=cr.map Chg.nb∧cr.map (·.x)=jts∧ZdH S' w' fz N bx cr∧co.map (·.nm)=ios∧(Zq (co.map (·.x))).Sublist ks0 ∧
   ∀ g∈co,(∃ b,getB bx g.nm=some b∧ZB g.nm=false∧g.b.ver=b.ver∧g.b.e=b.e∧g.b.row=b.row∧bm g.nm=g.x) ∧
    ∀ ch',(∀ g∈cr,g∈ch')→ZkJ S' w' fz (fun k=>k∈ks0) ch' g:=by
 induction hi with
 | nil =>
  intro jts outs h hs bo br hq;cases h
  simp[ZfC] at hq
  obtain⟨rfl,rfl⟩:=hq;exact⟨[],[],rfl,rfl,rfl,.nil,rfl,List.Sublist.refl _,by simp⟩
 | skip p1 p2 _ ih =>
  intro jts outs h hs bo br hq;cases h with
  | skip _ _ h=>exact ih hks h hs hq
  | io _ _=>exact absurd rfl (p1 _)
  | rio _ _ _ _=>exact absurd rfl (p2 _ _)
  | rio0 _ _=>exact absurd rfl (p2 _ _)
 | io h1 h2 h3 h4 h5 h6 _ ih =>
  rename_i nm k b cs0 ios ks1 ps vs _;intro jts outs h hs bo br hq;cases h with
  | skip q1 _ _=>exact absurd rfl (q1 _)
  | io hv h =>
   rename_i its cs jts outs;simp only[ZfC] at hq;split at hq
   ·rename_i b' m n hb hm
    rw[h1] at hb;injection hb with hb;subst hb;rw[h5] at hq;simp only[Bool.false_eq_true,if_false] at hq;split at hq <;> simp at hq
    rename_i hc;obtain⟨rfl,rfl⟩:=hq;obtain⟨co,cr,e1,e2,e3,e4,e5,e7,e6⟩:=ih (fun k hk=>hks k (List.mem_cons_of_mem _ hk)) h (fun hf=>by have:=hs hf; simp only[List.any_cons,Bool.or_eq_false_iff] at this; exact this.2) hm;obtain⟨ch,f1,f2,f3,f4⟩:=hv.land (bx:=bx) (fz:=fz) (fun hf=>by have:=hs hf; simp only[List.any_cons,Bool.or_eq_false_iff] at this; exact this.1) (nm:=nm);refine⟨⟨nm,{ b with els:=[(YA bx (ioN nm) 0 cs).1] },some (k,1)⟩ :: co,ch++cr,by rw[e1]; simp[Chg.nb,h5],by rw[f1,e2,List.map_append],by rw[List.map_append,f2,e3],f3.append e4,by simp[e5],List.Sublist.cons_cons k e7,fun g hg=>?_⟩;rcases List.mem_cons.1 hg with rfl | hg
    ·refine⟨⟨b,h1,h6,rfl,rfl,rfl,h2⟩,fun ch' hch=>?_⟩
     have:=f4 ch' (fun g hg=>hch g (List.mem_append_left _ hg)) (M:=fun q=>q∈k :: ks1) (by simp) b.ver
     have hbb:({ b with els:=[(YA bx (ioN nm) 0 cs).1] }:Box)=⟨b.ver,cs.length,[(YA bx (ioN nm) 0 cs).1],false,false⟩:=by
      have hce:=hc.1;clear this;cases b
      simp only at h4 h5 hce;subst h4 h5;rw[hce]
     rw[hbb];exact this
    ·obtain⟨q1,q2⟩:=e6 g hg
     exact⟨q1,fun ch' hch=>(q2 ch' fun g hg=>hch g (List.mem_append_right _ hg)).mono (fun _ h=>h) fun k hk=>List.mem_cons_of_mem _ hk⟩
   ·simp at hq
 | rio he hels h1 h2 h3 h4 h5 h6 h7 h8 h9 _ ih =>
  rename_i nm k c0 C b n0 e els0 ios ks1 ps vs _;intro jts outs h hs bo br hq;cases h with
  | skip _ q2 _=>exact absurd rfl (q2 _ _)
  | rio0 q _=>omega
  | rio hk hr hl h =>
   rename_i els outs;obtain⟨⟨arr,T,r1,r2⟩,r3,r4⟩:=hr;simp only[ZfC] at hq;split at hq
   ·rename_i b' m n hb hm
    rw[h1] at hb;injection hb with hb;subst hb;rw[h5] at hq;simp only[if_true] at hq;split at hq <;> simp at hq
    rename_i hc;obtain⟨rfl,rfl⟩:=hq;obtain⟨co,cr,e1,e2,e3,e4,e5,e7,e6⟩:=ih (fun k hk=>hks k (List.mem_cons_of_mem _ hk)) h (fun hf=>by have:=hs hf; simp only[List.any_cons,Bool.or_eq_false_iff] at this; exact this.2) hm;have hch:Zap b.e b.els.length els.flatten=els:=by rw[hels,← hl,he]; exact Zkb r3
    refine⟨⟨nm,{ b with els:=els },some (k,C)⟩ :: co,cr,by rw[e1]; simp[Chg.nb,hch,h5],e2,e3,e4,by simp[e5],List.Sublist.cons_cons k e7,fun g hg=>?_⟩;rcases List.mem_cons.1 hg with rfl | hg
    ·refine⟨⟨b,h1,h6,rfl,rfl,rfl,h2⟩,fun ch' hch'=>⟨h4,by rw[he]; exact r3,fun hx=>by simp at hx,fun k' C' hx=>?_⟩⟩
     simp at hx
     obtain⟨rfl,rfl⟩:=hx;obtain⟨arr0,T0,g1,g2⟩:=hold nm b k C h1 h2 h6;obtain⟨arr1,T1,g3,g4⟩:=hkp.sz k arr0 T0 (hks k (by simp)) g1;rw[r1] at g3;injection g3 with g3;injection g3 with g3 _ _;subst g3;refine⟨by simp,⟨arr,T,r1,by simp only; omega,fun i c v hc' hv=>.inl ⟨r2 i c v hc' hv,fun hf=>?_⟩⟩,by simp only; rw[hl,← hels]; exact h8,h9,fun hr=>(by simp only at hr; rw[h5] at hr; cases hr),r4⟩;have h10:=hs hf;simp only[List.any_cons,Bool.or_eq_false_iff] at h10;have h11:=h10.1;simp only[hasSlL,List.any_eq_false] at h11;have h12:=h11 c (List.mem_of_getElem? hc');have:=(r2 i c v hc' hv)
     cases this <;> simpa[Cell.hasSl] using h12
    ·obtain⟨q1,q2⟩:=e6 g hg
     exact⟨q1,fun ch' hch=>(q2 ch' hch).mono (fun _ h=>h) fun k hk=>List.mem_cons_of_mem _ hk⟩
   ·simp at hq
 | rio0 he h1 h2 h3 h4 h5 h6 h7 _ ih =>
  rename_i nm b x e ios ks1 ps vs _;intro jts outs h hs bo br hq;cases h with
  | skip _ q2 _=>exact absurd rfl (q2 _ _)
  | rio hk _ _ _=>omega
  | rio0 _ h =>
   simp only[ZfC] at hq;split at hq
   ·rename_i b' m n hb hm
    rw[h1] at hb;injection hb with hb;subst hb;rw[h4] at hq;simp only[if_true] at hq;split at hq <;> simp at hq
    obtain⟨rfl,rfl⟩:=hq;obtain⟨co,cr,e1,e2,e3,e4,e5,e7,e6⟩:=ih (fun k hk=>hks k (List.mem_cons_of_mem _ hk)) h (fun hf=>by have:=hs hf; simp only[List.any_cons,Bool.or_eq_false_iff] at this; exact this.2) hm;refine⟨⟨nm,{ b with els:=[] },none⟩ :: co,cr,by rw[e1]; simp[Chg.nb,h7,Zap,h4],e2,e3,e4,by simp[e5],List.Sublist.cons _ e7,fun g hg=>?_⟩;rcases List.mem_cons.1 hg with rfl | hg
    ·exact⟨⟨b,h1,h5,rfl,rfl,rfl,h2⟩,fun ch' hch'=>⟨h3,by simp,fun _=>⟨rfl,h4⟩,fun k' C' hx=>by simp at hx⟩⟩
    ·obtain⟨q1,q2⟩:=e6 g hg
     exact⟨q1,fun ch' hch=>(q2 ch' hch).mono (fun _ h=>h) fun k hk=>List.mem_cons_of_mem _ hk⟩
   ·simp at hq
theorem Zym (h:Zl G B ks w0 S0 S bm st a w){V:List Nat}{nm k C:Nat}{b:Box}(hb:getB st.boxes nm=some b) (hbm:bm nm=some (k,C)) (hf:b.frz=false) (hn:okN nm=true) (hp:ZH b.els=true) (hV:nm ∉ V) (hN:N k) (n:Nat) :
  ZkH (orS S (Yu bm st.boxes V)) w N k C b.e (b.els.take n):=by
 have hmap:ZB nm=false:=ZbO hn;obtain⟨hes,_,hB⟩:=h.boxes nm b hb;have hes:=hes hmap;rw[hbm] at hB;obtain⟨arr,Ty,a1,a2,a3⟩:=hB.blk hmap;refine⟨hN,⟨arr,Ty,a1,a2,fun i c v hc hv=>?_⟩,?_,hB.cap,fun l hl=>hes l (List.mem_of_mem_take hl),fun o hs=>?_⟩
 ·have hi:=Zm hc
  have e:b.els.flatten=(b.els.take n).flatten++(b.els.drop n).flatten:=by rw[← List.flatten_append,List.take_append_drop]
  have hc:b.els.flatten[i]? = some c:=by rw[e,List.getElem?_append_left hi]; exact hc
  have hpu:c.pureB=true:=by
   have:=ZhU hp;simp only[Yd,List.all_eq_true] at this;exact this c (List.mem_of_getElem? hc)
  exact((a3 i c v hc hv).pureC hpu).mono (fun _ _ h=>.inl h) (fun _ _ _=>rfl)
 ·have:=hB.room hmap
  simp only[List.length_take];omega
 ·rcases hs with hs | ⟨m,hm,b',C',g1,g2,g3⟩
  ·have:=(hB.free o hs).1; rw[hf] at this; simp at this
  ·have:=h.inj nm m b b' k C C' hb g1 hbm g2
   subst this;exact hV hm
theorem Zps (h:Zl G B ks w0 S0 S bm st a w){V:List Nat}{nm n e:Nat}{b:Box}{v:Value}(hc:ZW S w bm st.boxes (.ms nm b.ver 0 n e) v) (hb:getB st.boxes nm=some b) (hf:b.frz=false) (hbe:b.e=e) (hnn:n≤b.els.length) (hn:okN nm=true) (hp:ZH b.els=true) (hV:nm ∉ V) (hN:∀ k C,bm nm=some (k,C)→N k) :
  ∃ its,ZfE (orS S (Yu bm st.boxes V)) w N its (.own e (Zk0 n b.els)) v∧Zq its=XO bm [nm]:=by
 cases hc with
 | pure hc=>cases hc
 | ms _ _ _ _ _ x c hmap h1 h2 h3 h4 =>
  obtain⟨b',q1,q2,q3⟩:=h4;rw[hb] at q1;injection q1 with q1;subst q1;obtain⟨_,_,hloc⟩:=q3 rfl;unfold Loc at hloc;split at hloc
  ·rename_i k CC hbm
   obtain⟨rfl,hcC⟩:=hloc (.inr rfl);have hcC:c≤CC:=by simpa using hcC
   have hown:=(Zym h hb hbm hf hn hp hV (hN k CC hbm) n).less (c:=c) hcC (by simp only[List.length_take]; omega);rw[hbe] at hown;refine⟨[some (k,c)],?_,by simp[Zq,XO,hbm]⟩;have:=ZfE.own e (b.els.take n) n k c (by simp only[List.length_take]; omega) hown;rw[Znb hnn];simpa using this
  ·rename_i hbm
   obtain⟨rfl,rfl⟩:=hloc;rw[Znb hnn];exact⟨[none],.none e x,by simp[Zq,XO,hbm]⟩
def Zne (bx:Boxes) (nm:Nat):Prop:=∃ b,getB bx nm=some b∧b.frz=false∧b.row=true∧okN nm=true
theorem ZoB (h:Zl G B ks w0 S0 S bm st a w){lent:List Nat}{e:Nat}{c c':Cell}{v:Value}(hc:ZW S w bm st.boxes c v) (hr:Zet st.boxes e c=some c') (hl:∀ nm∈ZeW e c,nm∈lent) (hd:∀ nm∈hdC e c,nm ∉ lent) :
  ∃ its,ZfE (orS S (Yu bm st.boxes lent)) w (fun _=>True) its c' v∧Zq its=XO bm (hdC e c)∧(∀ nm∈hdC e c,Zne st.boxes nm)∧∀ nm∈ZeW e c,∃ b,getB st.boxes nm=some b∧ZH b.els=true:=by
 by_cases he:e=0
 ·subst he
  have hv:Z8 st.boxes c=some c' := by
   unfold Zet at hr;split at hr
   ·simpa using hr
   ·simpa[Z8] using hr
   ·simpa using hr
  simp only[ZeW,if_true] at hl;refine⟨[],.pure (Zjp h hc hv hl),by simp[Zq,XO,hdC],by simp[hdC],fun nm hn=>?_⟩;simp only[ZeW,if_true] at hn;exact ZlB hv nm hn
 ·simp only[hdC,if_neg he] at hd ⊢
  unfold Zet at hr;split at hr
  ·rename_i nm ver i n e'
   rw[if_neg he] at hr;split at hr
   ·rename_i b hb
    split at hr <;> simp at hr
    rename_i hcd;obtain⟨hver,hf,hrow,hbe,he',hi,hn,hok,hpu⟩:=hcd;subst hr hver he' hi;obtain⟨its,r1,r2⟩:=Zps h (N:=fun _=>True) hc hb hf hbe hn hok hpu (hd nm (by simp[nmC])) (fun _ _ _=>trivial);refine⟨its,r1,by simpa[nmC] using r2,fun m hm=>?_,by simp[ZeW,he]⟩;simp[nmC] at hm
    subst hm;exact⟨b,hb,hf,hrow,hok⟩
   ·simp at hr
  ·rename_i o els
   rw[if_neg he] at hr;split at hr <;> simp at hr
   subst hr;cases hc with
   | pure hc=>cases hc with
    | nil x=>exact⟨[none],.none e x,by simp[Zq,XO,nmC],by simp[nmC],by simp[ZeW,he]⟩
  ·simp[he] at hr
theorem Zmy (h:Zl G B ks w0 S0 S bm st a w){lent:List Nat}:∀ {es:List Nat}{cs cs':List Cell}{vs:List Value},Zk (ZW S w bm st.boxes) cs vs→Zba st.boxes es cs=some cs'→(∀ nm∈lentL es cs,nm∈lent)→(∀ nm∈hdL es cs,nm ∉ lent) →
  ∃ its,ZeX (orS S (Yu bm st.boxes lent)) w (fun _=>True) its cs' vs∧Zq its=XO bm (hdL es cs)∧(∀ nm∈hdL es cs,Zne st.boxes nm)∧∀ nm∈lentL es cs,∃ b,getB st.boxes nm=some b∧ZH b.els=true
 | es,[],cs',vs,hc,hr,_,_=>by
  cases hc
  cases es <;> simp[Zba] at hr <;> subst hr <;> exact⟨[],.nil,by simp[Zq,XO,hdL],by simp[hdL],by simp[lentL]⟩
 | [],c :: cs,cs',vs,hc,hr,hl,hd=>by
  cases hc with
  | cons h1 h2 =>
   simp only[Zba] at hr;split at hr <;> simp at hr
   rename_i d ds e1 e2;subst hr;simp only[lentL,hdL,List.mem_append] at hl hd ⊢;obtain⟨i1,r1,r2,r3,r4⟩:=ZoB h h1 e1 (lent:=lent) (fun nm hn=>hl nm (.inl (by simpa[ZeW] using hn))) (fun nm hn=>by simp[hdC] at hn);obtain⟨i2,q1,q2,q3,q4⟩:=Zmy h h2 e2 (fun nm hn=>hl nm (.inr hn)) hd;refine⟨i1++i2,.cons r1 q1,by rw[Ym,r2,q2]; simp[hdC,XO],q3,?_⟩;rintro nm (hn | hn)
   ·exact r4 nm (by simpa[ZeW] using hn)
   ·exact q4 nm hn
 | e :: es,c :: cs,cs',vs,hc,hr,hl,hd=>by
  cases hc with
  | cons h1 h2 =>
   simp only[Zba] at hr;split at hr <;> simp at hr
   rename_i d ds e1 e2;subst hr;simp only[lentL,hdL,List.mem_append] at hl hd ⊢;obtain⟨i1,r1,r2,r3,r4⟩:=ZoB h h1 e1 (lent:=lent) (fun nm hn=>hl nm (.inl hn)) (fun nm hn=>hd nm (.inl hn));obtain⟨i2,q1,q2,q3,q4⟩:=Zmy h h2 e2 (fun nm hn=>hl nm (.inr hn)) (fun nm hn=>hd nm (.inr hn));refine⟨i1++i2,.cons r1 q1,by rw[Ym,Zb7,r2,q2],?_,?_⟩
   ·rintro nm (hn | hn)
    ·exact r3 nm hn
    ·exact q3 nm hn
   ·rintro nm (hn | hn)
    ·exact r4 nm hn
    ·exact q4 nm hn
theorem Zl.varOf (h:Zl G B ks w0 S0 S bm st a w){nm k C:Nat}{b:Box}{cs:List Cell}(hmap:ZB nm=false) (hb:getB st.boxes nm=some b) (hbm:bm nm=some (k,C)) (hels:b.els=[cs]) :
  ∃ arr T us,w.heap[k]? = some (.cells arr T (0,0))∧(∀ (i:Nat) v,us[i]? = some v→arr[i]? = some v)∧Zk (ZW S w bm st.boxes) cs us:=by
 obtain⟨hes,_,hB⟩:=h.boxes nm b hb;have hes:=hes hmap;rw[hbm] at hB;obtain⟨arr,Ty,a1,a2,a3⟩:=hB.blk hmap
 have hle:cs.length≤arr.size:=by
  have h1:=hB.room hmap;rw[hels] at h1;have h2:=hes cs (by simp[hels]);have:1 * b.e≤C * b.e:=Nat.mul_le_mul_right _ h1;omega
 refine⟨arr,Ty,arr.toList.take cs.length,a1,fun i v hv=>?_,Zk.of_get (by simp; omega) fun i c v hc hv=>?_⟩
 ·have hi:=Zm hv
  simp at hi
  rw[List.getElem?_take_of_lt (by omega)] at hv;simpa using hv
 ·have hi:=Zm hc
  rw[List.getElem?_take_of_lt (by omega)] at hv;exact a3 i c v (by rw[hels]; simpa using hc) (by simpa using hv)
theorem Zss (h:Zl G B ks w0 S0 S bm st a w){lent:List Nat}:∀ {ps qs:List PV}{vs:List Value}{hh:List (List Nat)},Zk (X9 S w bm st.boxes) ps vs→ZjS st.boxes hh ps=some qs→(∀ nm∈XR st.boxes hh ps,nm∈lent)→(∀ nm∈ioPs hh ps,nm ∉ lent)→(∀ nm∈Zdc st.boxes hh ps,nm ∉ lent) →
  ∃ ks0 hs0,Yf (orS S (Yu bm st.boxes lent)) w ks0 hs0 qs vs∧IoV bm st.boxes w.heap.size (ioPs hh ps) ks0 qs vs∧hs0=XO bm (Zdc st.boxes hh ps)∧(∀ nm∈Zdc st.boxes hh ps,Zne st.boxes nm)∧∀ nm∈XR st.boxes hh ps,∃ b,getB st.boxes nm=some b∧ZH b.els=true
 | [],qs,vs,hh,hr,hq,_,_,_=>by cases hr; simp[ZjS] at hq; subst hq; exact⟨[],[],.nil,.nil,by simp[Zdc,XO],by simp[Zdc],by simp[XR]⟩
 | p :: ps,qs,vs,hh,hr,hq,hl,hd,hdd=>by
  cases hr with
  | cons hr1 hr2 =>
   rename_i v vs;simp only[ZjS] at hq;split at hq <;> simp at hq
   rename_i q qs' hq1 hq2;subst hq;simp only[XR,Zdc,ioPs,List.mem_append] at hl hd hdd ⊢;generalize hh.headD []=h0 at *;generalize hh.tail=ht at *;obtain⟨ks1,hs1,i1,i2,i3,i4,i5⟩:=Zss h hr2 hq2 (fun nm hn=>hl nm (.inr hn)) (fun nm hn=>hd nm (.inr hn)) (fun nm hn=>hdd nm (.inr hn));have hl1:=fun nm hn=>hl nm (.inl hn)
   have hd1:=fun nm hn=>hd nm (.inl hn)
   have hdd1:=fun nm hn=>hdd nm (.inl hn)
   have plain:∀ {q v},hdP st.boxes h0 p=[]→ioP h0 p=[]→(∀ cs,q≠.io cs)→(∀ e els,q≠.rio e els)→(∀ {ks hs ps vs},Yf (orS S (Yu bm st.boxes lent)) w ks hs ps vs→Yf (orS S (Yu bm st.boxes lent)) w ks hs (q :: ps) (v :: vs))→(∀ nm∈ZfB st.boxes h0 p,∃ b,getB st.boxes nm=some b∧ZH b.els=true) →
     ∃ ks0 hs0,Yf (orS S (Yu bm st.boxes lent)) w ks0 hs0 (q :: qs') (v :: vs)∧IoV bm st.boxes w.heap.size (ioP h0 p++ioPs ht ps) ks0 (q :: qs') (v :: vs)∧hs0=XO bm (hdP st.boxes h0 p++Zdc st.boxes ht ps)∧(∀ nm,nm∈hdP st.boxes h0 p∨nm∈Zdc st.boxes ht ps→Zne st.boxes nm)∧∀ nm,nm∈ZfB st.boxes h0 p∨nm∈XR st.boxes ht ps→∃ b,getB st.boxes nm=some b∧ZH b.els=true:=by
    intro q v e1 e2 n1 n2 hA hL;refine⟨ks1,hs1,hA i1,by rw[e2]; exact .skip n1 n2 i2,by rw[e1]; exact i3,?_,?_⟩
    ·rw[e1]; rintro nm (hn | hn); simp at hn; exact i4 nm hn
    ·rintro nm (hn | hn); exact hL nm hn; exact i5 nm hn
   cases p with
   | one c =>
    cases hr1 with
    | base hr1=>cases hr1 with
     | one hr1 =>
      simp only[ZfA] at hq1;by_cases hle:Zj1 h0=true
      ·simp only[hle,if_true] at hq1
       simp only[ZfB,hdP,ioP,hle,if_true] at hl1 hd1 hdd1 ⊢;generalize h0.headD 0-1000000=ee at hq1;unfold ZqF at hq1;split at hq1
       ·rename_i nm ver i0 n e'
        split at hq1
        ·rename_i b hb
         split at hq1 <;> simp at hq1
         rename_i hcd;obtain⟨hver,hf,hrow,hbe,he',he0,hi0,hn,hmap,hpu⟩:=hcd;subst hq1 hver hi0 hn he';cases hr1 with
         | pure hr1=>cases hr1
         | ms _ _ _ _ _ x c _ g1 g2 g3 g4 =>
          obtain⟨b',q1,q2,q3⟩:=g4;rw[hb] at q1;injection q1 with q1;subst q1;obtain⟨_,_,hloc⟩:=q3 rfl;unfold Loc at hloc
          have hrest:∀ nm',nm'∈([]:List Nat)∨nm'∈Zdc st.boxes ht ps→Zne st.boxes nm' := by
           rintro m (hm | hm)
           ·simp at hm
           ·exact i4 m hm
          have hrest2:∀ nm',nm'∈([]:List Nat)∨nm'∈XR st.boxes ht ps→∃ b,getB st.boxes nm'=some b∧ZH b.els=true:=by
           rintro m (hm | hm)
           ·simp at hm
           ·exact i5 m hm
          split at hloc
          ·rename_i k CC hbm
           obtain⟨rfl,hcC⟩:=hloc (.inr rfl);have hcC:c≤CC:=by simpa using hcC
           obtain⟨hes,_,hB⟩:=h.boxes nm b hb;rw[hbm] at hB;have hkl:k<w.heap.size:=(h.boxes nm b hb).lt hbm
           have hown:ZkH (orS S (Yu bm st.boxes lent)) w (fun _=>True) k CC b.e b.els:=by
            obtain⟨arr,Ty,a1,a2,a3⟩:=hB.blk hmap;refine⟨trivial,⟨arr,Ty,a1,a2,fun i c v hc hv=>?_⟩,hB.room hmap,hB.cap,hes hmap,fun o hs=>?_⟩
            ·have hpu':c.pureB=true:=by
              have:=ZhU hpu;simp only[Yd,List.all_eq_true] at this;exact this c (List.mem_of_getElem? hc)
             exact((a3 i c v hc hv).pureC hpu').mono (fun _ _ h=>.inl h) (fun _ _ _=>rfl)
            ·rcases hs with hs | ⟨m,hm,b',C',f1,f2,f3⟩
             ·have:=(hB.free o hs).1; rw[hf] at this; simp at this
             ·have:=h.inj nm m b b' k CC C' hb f1 hbm f2
              subst this;exact hd1 nm (by simp[nmC]) hm
           refine⟨k :: ks1,hs1,?_,?_,i3,hrest,hrest2⟩
           ·rw[← hbe]
            have:=Yf.rio (n:=b.els.length) rfl (by rw[hbe]; exact he0) (hown.less (c:=c) hcC g1) i1;simpa using this
           ·have:=IoV.rio (n:=b.els.length) (c:=c) hbe rfl hb hbm hkl hf hrow hmap (by rw[hbe]; exact he0) (hB.room hmap) hB.cap i2
            simpa[nmC] using this
          ·rename_i hbm
           obtain⟨hz,rfl⟩:=hloc;have hz':b.els=[]:=List.length_eq_zero_iff.1 hz;rw[hz'];refine⟨(w.heap.size+qs'.length) :: ks1,hs1,.rio0 he0 (by omega) i1,?_,i3,hrest,hrest2⟩;exact IoV.rio0 hbe hb hbm hf hrow hmap (by rw[hbe]; exact he0) hz' i2
        ·simp at hq1
       ·simp at hq1
      ·have hle:Zj1 h0=false:=by simpa using hle
       simp only[hle,Bool.false_eq_true,if_false,Option.map_eq_some_iff] at hq1;simp only[ZfB,hdP,ioP,hle,Bool.false_eq_true,if_false] at hl1 hd1 hdd1 ⊢;obtain⟨c',hc',rfl⟩:=hq1;obtain⟨its,r1,r2,r3,r4⟩:=ZoB h hr1 hc' hl1 hdd1;refine⟨ks1,Zq its++hs1,.one r1 i1,.skip (by simp) (by simp) i2,by rw[r2,i3,Zb7],?_,?_⟩
       ·rintro nm (hn | hn); exact r3 nm hn; exact i4 nm hn
       ·rintro nm (hn | hn); exact r4 nm hn; exact i5 nm hn
   | agg cs =>
    cases hr1 with
    | base hr1=>cases hr1 with
     | agg hr1 =>
      simp only[ZfA,Option.map_eq_some_iff] at hq1;obtain⟨cs',hc',rfl⟩:=hq1;obtain⟨its,r1,r2,r3,r4⟩:=Zmy h hr1 hc' hl1 hdd1;refine⟨ks1,Zq its++hs1,.agg r1 i1,.skip (by simp) (by simp) i2,by rw[r2,i3,Zb7]; rfl,?_,?_⟩
      ·rintro nm (hn | hn); exact r3 nm hn; exact i4 nm hn
      ·rintro nm (hn | hn); exact r4 nm hn; exact i5 nm hn
   | fn f =>
    cases hr1 with
    | base hr1=>cases hr1 with
     | fn f =>
      simp[ZfA] at hq1
      subst hq1;exact plain rfl rfl (by simp) (by simp) .fn (by simp[ZfB])
   | ptr nm ver i off e =>
    cases hr1 with
    | base hr1=>cases hr1 with
     | ptr _ _ _ _ _ k hmap hk =>
      unfold ZfA at hq1;split at hq1
      all_goals first
       | (rename_i heq; cases heq; done)
       | (simp at hq1; done)
       | skip
      rename_i nm' ver' e' heq;injection heq with e1 e2 e3 e4 e5;subst e1 e2 e3 e4 e5;split at hq1
      ·rename_i b hb
       split at hq1
       ·rename_i cs hels
        split at hq1 <;> simp at hq1
        rename_i hc;obtain⟨cs',hq1,rfl⟩:=hq1;obtain⟨hver,hfz,hrow,_⟩:=hc;obtain⟨b',q1,q2,q3⟩:=hk;rw[hb] at q1;injection q1 with q1;subst q1;obtain⟨_,C,hbm⟩:=q3 hver;obtain⟨hes,_,hB⟩:=h.boxes nm b hb;rw[hbm] at hB;have hic:Zcz st.boxes nm=cs:=by simp[Zcz,hb,hels]
        simp only[ZfB,hdP,hic] at hl1 hdd1 ⊢;obtain⟨arr,Ty,us,a1,a2,a3⟩:=h.varOf hmap hb hbm hels;obtain⟨its,r1,r2,r3,r4⟩:=Zmy h a3 hq1 hl1 hdd1
        have hnS:∀ o,¬ orS S (Yu bm st.boxes lent) k o:=by
         rintro o (hs | ⟨m,hm,bm',Cm,g1,g2,g3⟩)
         ·have:=(hB.free o hs).1; rw[hfz] at this; simp at this
         ·have:=h.inj nm m b bm' k C Cm hb g1 hbm g2
          subst this;exact hd1 nm (by simp[ioP]) hm
        refine⟨k :: ks1,Zq its++hs1,?_,?_,by rw[r2,i3,Zb7],?_,?_⟩
        ·have:=Yf.io (k:=k) (cs:=cs') ⟨arr,Ty,us,a1,a2,r1,hnS⟩ i1
         simpa using this
        ·have hC:=hB.one hrow
         subst hC;have:=IoV.io (cs:=cs') hb hbm ((h.boxes nm b hb).lt hbm) hfz hrow hmap i2;simpa[ioP] using this
        ·rintro nm (hn | hn); exact r3 nm hn; exact i4 nm hn
        ·rintro nm (hn | hn); exact r4 nm hn; exact i5 nm hn
       ·simp at hq1
      ·simp at hq1
   | undef=>simp[ZfA] at hq1
   | skip=>simp[ZfA] at hq1
   | tup _=>simp[ZfA] at hq1
   | ref cs =>
    cases hr1 with
    | base hr1=>cases hr1 with
     | ref b o us h1 h2 h3 =>
      simp[ZfA] at hq1
      subst hq1;exact plain rfl rfl (by simp) (by simp) (.ref b o us (Zk.mono h1 fun _ _ h=>h.mono (fun _ _ h=>.inl h) (fun _ _ _=>rfl)) (fun j hj=>.inl (h2 j hj)) h3) (by simp[ZfB])
   | clo f cps =>
    cases hr1 with
    | base hr1=>cases hr1 with
     | clo hr1 =>
      simp only[ZfA] at hq1;split at hq1 <;> simp at hq1
      rename_i qs2 hqs2;subst hq1;obtain⟨c1,c2⟩:=ZpT h hr1 hqs2 hl1;exact plain rfl rfl (by simp) (by simp) (.clo c1) c2
   | io _=>simp[ZfA] at hq1
   | rio _ _=>simp[ZfA] at hq1
theorem ZfE.nn {its:List Item}{c:Cell}{v:Value}(h:ZfE S w N its c v):ZfE S w N its c.nn v:=by
 cases h with
 | pure h=>exact .pure h.nn
 | none e x=>exact .none e x
 | own e els n k C h1 h2=>exact .own e els n k C h1 h2
theorem ZeX.nn {its:List Item}{c:List Cell}{v:List Value}(h:ZeX S w N its c v):ZeX S w N its (nnL c) v:=by
 induction h with
 | nil=>exact .nil
 | cons h _ ih=>exact .cons h.nn ih
theorem Yf.nn {ks0 hs0:List Nat}{ps:List PV}{vs:List Value}(h:Yf S w ks0 hs0 ps vs):Yf S w ks0 hs0 (ps.map PV.nnB) vs:=by
 induction h with
 | nil=>exact .nil
 | one h _ ih=>exact .one h.nn ih
 | agg h _ ih=>exact .agg h.nn ih
 | fn _ ih=>exact .fn ih
 | ref b o us h1 h2 h3 _ ih=>exact .ref b o us h1 h2 h3 ih
 | clo h _ ih=>exact .clo h ih
 | io h _ ih =>
  obtain⟨arr,Ty,us,h3,h4,h5,h6⟩:=h;exact .io ⟨arr,Ty,us,h3,h4,h5.nn,h6⟩ ih
 | rio h1 h2 h3 _ ih=>exact .rio h1 h2 h3 ih
 | rio0 h1 h2 _ ih=>exact .rio0 h1 h2 ih
theorem Zco.nn {B0:Nat}:∀ {ps:List PV}{ks0:List Nat}{vs:List Value}{jts:List Item}{outs:List (List Cell)},Zco S w N B0 ks0 (ps.map PV.nnB) vs jts outs→Zco S w N B0 ks0 ps vs jts outs
 | [],_,_,_,_,h=>by cases h; exact .nil
 | p :: ps,ks0,vs,jts,outs,h=>by
  rw[List.map_cons] at h;generalize hq:p.nnB=q at h;generalize hqs:ps.map PV.nnB=qs at h;cases h with
  | skip h1 h2 h =>
   subst hqs;refine .skip (fun cs hp=>?_) (fun e els hp=>?_) (Zco.nn h)
   ·subst hp; exact h1 _ hq.symm
   ·subst hp; exact h2 _ _ hq.symm
  | io h1 h =>
   subst hqs;cases p <;> simp[PV.nnB] at hq
   exact .io h1 (Zco.nn h)
  | rio h1 h2 h3 h =>
   subst hqs;cases p <;> simp[PV.nnB] at hq
   obtain⟨rfl,rfl⟩:=hq;exact .rio h1 h2 h3 (Zco.nn h)
  | rio0 h1 h =>
   subst hqs;cases p <;> simp[PV.nnB] at hq
   obtain⟨rfl,rfl⟩:=hq;exact .rio0 h1 (Zco.nn h)
theorem ZR.nn {f:FuncId}{F:List PV→Option (PV×List (List Cell))}(h:ZR P G f F):ZR P G f fun qs=>F (qs.map PV.nnB) :=
 ⟨h.1,fun S w ks hs ps vs r outs h1 h2 h3 h4 h5=>(h.2 S w ks hs _ vs r outs h1 h2 h3.nn h4 h5).mono fun e w' ⟨v,S',its,jts,g1,g2,g3,g4⟩=>⟨v,S',its,jts,g1,g2,g3.nn,g4⟩⟩
theorem Zd9.nn {f:FuncId}{F:List PV→Option (PV×List (List Cell))}(h:Zd9 P G f F):Zd9 P G f fun qs=>F (qs.map PV.nnB):=by
 rcases h with h | h
 ·exact .inl h.nn
 ·refine .inr fun S w ks hs ps vs r outs h1 h2 h3 h4 h5=>?_
  obtain⟨v,S',its,jts,g0,g1,g2,g3,g4⟩:=h S w ks hs _ vs r outs h1 h2 h3.nn h4 h5;exact⟨v,S',its,jts,g0,g1,g2.nn,g3,g4⟩
theorem Zxd (hT:∀ f F,T f=some F→Zd9 P G (f % 1000000) F){f:FuncId}{F:List PV→Option (PV×List (List Cell))}(h:ZqN T f=some F):Zd9 P G f F:=by
 unfold ZqN at h;split at h
 ·rename_i hf
  split at h
  ·rename_i F' hF'
   injection h with h;subst h;have:=hT f F' hF';rw[Nat.mod_eq_of_lt hf] at this;exact this.nn
  ·have:=hT _ F h
   rw[Nat.add_mod_right,Nat.mod_eq_of_lt hf] at this;exact this
 ·simp at h
end
section
variable {P:Program}{tt:TT}{T:Tab}{G:Glob}{B:Nat}{ks:List Nat}{w0:World}{S0 S S' S2:Nat→Nat→Prop}{bm bm' bm2:BM}{bx bx2:Boxes}{st st':ASt}{a:Act}{w w':World}{Q:Exit→Act→World→Prop}{o:Oper}{N N':Nat→Prop}{fz:Bool}{ch ch':List Chg}
theorem Zk.and {α β:Type}{R R':α→β→Prop}{l:List α}{m:List β}(h:Zk R l m) (h':Zk R' l m):Zk (fun a b=>R a b∧R' a b) l m:=by
 induction h with
 | nil=>exact .nil
 | cons h _ ih=>cases h' with
  | cons h1 h2=>exact .cons ⟨h,h1⟩ (ih h2)
def upC (bm:BM):List Chg→BM
 | []=>bm
 | g :: ch=>fun m=>if m=g.nm then g.x else upC bm ch m
theorem upC_not:∀ {ch:List Chg}{m:Nat},m ∉ ch.map (·.nm)→upC bm ch m=bm m
 | [],m,_=>rfl
 | g :: ch,m,h=>by
  simp only[List.map_cons,List.mem_cons,not_or] at h;simp only[upC,if_neg h.1];exact upC_not h.2
theorem upC_at:∀ {ch:List Chg},(ch.map (·.nm)).Nodup→∀ g∈ch,upC bm ch g.nm=g.x
 | [],_,g,hg=>by simp at hg
 | c :: ch,hn,g,hg=>by
  simp only[List.map_cons,List.nodup_cons] at hn;rcases List.mem_cons.1 hg with rfl | hg
  ·simp[upC]
  ·have:g.nm≠c.nm:=fun he=>hn.1 (he ▸ List.mem_map.2 ⟨g,hg,rfl⟩)
   simp only[upC,if_neg this];exact upC_at hn.2 g hg
theorem nodup_same:∀ {ch:List Chg},(ch.map (·.nm)).Nodup→∀ g∈ch,∀ g'∈ch,g.nm=g'.nm→g=g'
 | [],_,g,hg,_,_,_=>by simp at hg
 | c :: ch,hn,g,hg,g',hg',he=>by
  simp only[List.map_cons,List.nodup_cons] at hn;rcases List.mem_cons.1 hg with h1 | h1 <;> rcases List.mem_cons.1 hg' with h2 | h2
  ·rw[h1,h2]
  ·exact absurd (List.mem_map.2 ⟨g',h2,by rw[← he,h1]⟩) hn.1
  ·exact absurd (List.mem_map.2 ⟨g,h1,by rw[he,h2]⟩) hn.1
  ·exact nodup_same hn.2 g h1 g' h2 he
set_option maxHeartbeats 1000000 in
theorem Zl.behind (h:Zl G B ks w0 S0 S bm st a w){lent ks0:List Nat}{fz:Bool}{ch:List Chg}
  (hlent:∀ nm∈lent,∃ b,getB st.boxes nm=some b∧ZH b.els=true) (hfo:fz=true→Zb5 lent=true)
  (hg:ZnR (orS S (Yu bm st.boxes lent)) S' w w' ks0)
  (hkin:∀ k∈ks0,(∃ nm b C,nm∈ch.map (·.nm)∧getB st.boxes nm=some b∧bm nm=some (k,C)∧b.frz=false∧ZB nm=false)∨w.heap.size≤k)
  (hnd:(ch.map (·.nm)).Nodup) (hok:∀ g∈ch,ZkJ S' w' fz (fun k=>w.heap.size≤k∨k∈ks0) ch g) (hmp:∀ g∈ch,ZB g.nm=false)
  (hver:∀ g∈ch,(¬ Zj4 g.nm∧∀ b,getB st.boxes g.nm=some b→b.ver<g.b.ver)∨(∃ b,getB st.boxes g.nm=some b∧g.b.ver=b.ver∧g.b.e=b.e∧g.b.row=b.row∧bm g.nm=g.x))
  (hblks:∀ g∈ch,∀ g'∈ch,∀ k C C',g.x=some (k,C)→g'.x=some (k,C')→g.nm=g'.nm) (hdis:∀ nm∈lent,nm ∉ ch.map (·.nm)) :
  ∃ S2,(fz=true→S2=S')∧Zl G B ks w0 S0 S2 (upC bm ch) ⟨st.env,ZZ st.boxes ((if fz then Xw st.boxes lent else[])++ch.map Chg.nb)⟩ a w' ∧
   ∀ g∈ch,upC bm ch g.nm=g.x∧getB (ZZ st.boxes ((if fz then Xw st.boxes lent else[])++ch.map Chg.nb)) g.nm=some g.b∧ZB g.nm=false:=by
 generalize hfr:(if fz then Xw st.boxes lent else[])=fr
 have hfr1:∀ x∈fr,fz=true∧x.1∈lent∧∃ b,getB st.boxes x.1=some b∧x.2 = { b with frz:=true }:=by
  intro x hx;rw[← hfr] at hx;split at hx
  ·rename_i hf; exact⟨hf,frzL_spec hx⟩
  ·simp at hx
 have hchn:∀ g∈ch,g.nm∈ch.map (·.nm):=fun g hg=>List.mem_map.2 ⟨g,hg,rfl⟩
 have hcons:∀ x∈fr++ch.map Chg.nb,∀ y∈fr++ch.map Chg.nb,x.1=y.1→x.2=y.2:=by
  intro x hx y hy he;simp only[List.mem_append,List.mem_map] at hx hy;rcases hx with hx | ⟨g,hg',rfl⟩ <;> rcases hy with hy | ⟨g',hg2,rfl⟩
  ·obtain⟨_,_,b1,g1,g2⟩:=hfr1 x hx
   obtain⟨_,_,b2,g3,g4⟩:=hfr1 y hy;rw[he,g3] at g1;injection g1 with g1;subst g1;rw[g2,g4]
  ·exact absurd (he ▸ hchn g' hg2) (hdis x.1 (hfr1 x hx).2.1)
  ·exact absurd (he ▸ hchn g hg') (hdis y.1 (hfr1 y hy).2.1)
  ·have:=nodup_same hnd g hg' g' hg2 he
   rw[this]
 have hget:∀ {nm b},(nm,b)∈fr++ch.map Chg.nb→getB (ZZ st.boxes (fr++ch.map Chg.nb)) nm=some b:=fun hm=>getB_setBs_mem hcons hm
 have hgetc:∀ g∈ch,getB (ZZ st.boxes (fr++ch.map Chg.nb)) g.nm=some g.b:=fun g hg'=>hget (List.mem_append_right _ (List.mem_map.2 ⟨g,hg',rfl⟩))
 have hup:=upC_at (bm:=bm) hnd;have hupn:∀ {m},m ∉ ch.map (·.nm)→upC bm ch m=bm m:=fun hm=>upC_not hm
 have hsz:=hg.keep.size
 let S2:Nat→Nat→Prop:=fun b o=>S b o∨(S' b o∧(fz=true∨w.heap.size≤b))
 have hSS:∀ b o,S b o→S' b o:=fun b o hs=>hg.mono b o (.inl hs)
 have h2S':∀ b o,S2 b o→S' b o:=fun b o hs=>hs.elim (hSS b o) (·.1)
 have hblk:∀ b,b<w.heap.size→b ∉ ks0→w'.heap[b]? = w.heap[b]? := fun b hb hk=>hg.keep.block b hb hk
 have hkB:∀ k∈ks0,B≤k∨k∈ks:=by
  intro k hk;rcases hkin k hk with ⟨nm,b,C,_,g1,g2,_,_⟩ | hk'
  rotate_left
  ·exact .inl (Nat.le_trans h.base hk')
  obtain⟨_,_,hB⟩:=h.boxes nm b g1;rw[g2] at hB;exact hB.base'.imp id (·.1)
 have hcell:∀ b o,S b o→w'.cell? ⟨b,o,none⟩=w.cell? ⟨b,o,none⟩:=by
  intro b o hs;refine World.cell?_of_block (a:=⟨b,o,none⟩) (hblk b (h.slt _ _ hs) fun hk=>?_);rcases hkin b hk with ⟨nm,b',C,_,h2,h3,h4,_⟩ | hk'
  rotate_left
  ·have:=h.slt _ _ hs
   omega
  obtain⟨_,_,hB⟩:=h.boxes nm b' h2;rw[h3] at hB;have:=(hB.free o hs).1;rw[h4] at this;simp at this
 have hrefs:ZaX bm st.boxes (upC bm ch) (ZZ st.boxes (fr++ch.map Chg.nb)):=by
  intro nm b hb;by_cases h1:nm∈ch.map (·.nm)
  ·obtain⟨g,hgc,rfl⟩:=List.mem_map.1 h1
   rcases hver g hgc with ⟨_,hv⟩ | ⟨b',g1,g2,g3,g4,g5⟩
   ·have:=hv b hb
    exact⟨g.b,hgetc g hgc,by omega,fun hh=>by omega⟩
   ·rw[hb] at g1
    injection g1 with g1;subst g1;exact⟨g.b,hgetc g hgc,by omega,fun _=>⟨g3,g4,by rw[hup g hgc,g5]⟩⟩
  ·rw[hupn h1]
   by_cases h3:fz=true∧nm∈lent
   ·have hm:(nm,{ b with frz:=true })∈fr:=by rw[← hfr,if_pos h3.1]; exact frzL_mem h3.2 hb
    exact⟨_,hget (List.mem_append_left _ hm),Nat.le_refl _,fun _=>⟨rfl,rfl,rfl⟩⟩
   ·refine⟨b,?_,Nat.le_refl _,fun _=>⟨rfl,rfl,rfl⟩⟩
    rw[Zhi]
    ·exact hb
    ·intro x hx he
     simp only[List.mem_append,List.mem_map] at hx;rcases hx with hx | ⟨g,hgc,rfl⟩
     ·exact h3 ⟨(hfr1 x hx).1,he ▸ (hfr1 x hx).2.1⟩
     ·exact h1 (he ▸ hchn g hgc)
 have hin0:∀ {nm b k C},getB st.boxes nm=some b→bm nm=some (k,C)→nm ∉ ch.map (·.nm)→k ∉ ks0:=by
  intro nm b k C hb hbm hn hk0;rcases hkin k hk0 with ⟨m,b',C',f0,f1,f2,_⟩ | hk'
  rotate_left
  ·have:=(h.boxes nm b hb).lt hbm
   omega
  have:=h.inj nm m b b' k C C' hb f1 hbm f2;subst this;exact hn f0
 refine⟨S2,fun hf=>?_,?_,fun g hgc=>⟨hup g hgc,hgetc g hgc,hmp g hgc⟩⟩
 ·funext b o
  apply propext
  exact⟨h2S' b o,fun hs=>.inr ⟨hs,.inl hf⟩⟩
 ·refine h.change hrefs (fun _ _ h=>.inl h) hcell ⟨hg.keep.os,hg.keep.tape,hg.keep.output,hsz,fun b hb hk=>?_,fun b arr T hk ha=>(by
   by_cases hk0:b∈ks0
   ·exact hg.keep.sz b arr T hk0 ha
   ·exact⟨arr,T,(hblk b (Zaa ha) hk0).trans ha,Nat.le_refl _⟩)⟩ (fun b o hs=>?_) (fun b o hs=>hg.slt b o (h2S' b o hs)) (fun nm b hb=>?_) (fun nm nm' b b' k C C' hb hb' h1 h2=>?_)
  ·refine hblk b (Nat.lt_of_lt_of_le hb h.base) fun hk0=>?_
   rcases hkB b hk0 with h' | h'
   ·omega
   ·exact hk h'
  ·rcases hs with hs | ⟨hs,hs2⟩
   ·exact .inl hs
   ·rcases hg.fresh b o hs with (h' | ⟨nm,hnm,b',C,g1,g2,g3⟩) | h' | h'
    ·exact .inl h'
    ·obtain⟨_,_,hB⟩:=h.boxes nm b' g1
     rw[g2] at hB;exact .inr (hB.base'.imp id (·.1))
    ·exact .inr (.inl (Nat.le_trans h.base h'))
    ·exact .inr (hkB b h')
  ·rcases getB_setBs_inv hb with ⟨b1,hm⟩ | ⟨hn,hb0⟩
   ·rw[hget hm] at hb
    injection hb with hb;subst hb;simp only[List.mem_append,List.mem_map] at hm;right
    rcases hm with hm | ⟨g,hgc,hge⟩
    ·obtain⟨hf,hl,b0,g1,g2⟩:=hfr1 _ hm
     simp only at g1 g2 hl;subst g2;obtain⟨b0',q1,q2⟩:=hlent nm hl;rw[g1] at q1;injection q1 with q1;subst q1;have hnn:=hdis nm hl;obtain⟨hes,_,hB⟩:=h.boxes nm b0 g1
     have hmap:ZB nm=false:=ZbO (by
      have:=hfo hf;simp only[Zb5,List.all_eq_true] at this
      exact this nm hl)
     refine⟨hes,fun _=>q2,?_⟩;rw[hupn hnn];cases hbm:bm nm with
     | none=>rw[hbm] at hB; exact hB
     | some kc =>
      obtain⟨k,C⟩:=kc;rw[hbm] at hB;obtain⟨arr,Ty,ha1,ha2,ha3⟩:=hB.blk hmap;have hkk:k ∉ ks0:=hin0 g1 hbm hnn;refine⟨hB.base,⟨fun _=>⟨arr,Ty,(hblk k (Zaa ha1) hkk).trans ha1,ha2,fun i c v hc hv=>(ha3 i c v hc hv).mono (fun _ _ h=>.inl h) hcell hrefs⟩,fun hm=>ZcB hm hmap⟩,hB.room0,hB.cap,fun o hs=>⟨rfl,?_⟩,fun _ o ho=>.inr ⟨hg.mono _ _ (.inr ⟨nm,hl,b0,C,g1,hbm,ho⟩),.inl hf⟩,hB.one⟩;rcases hg.fresh k o (h2S' k o hs) with (h' | ⟨m,hm',b',C',f1,f2,f3⟩) | h' | h'
      ·exact(hB.free o h').2
      ·have:=h.inj nm m b0 b' k C C' g1 f1 hbm f2
       subst this;rw[g1] at f1;injection f1 with f1;subst f1;exact f3
      ·have:=Zaa ha1; omega
      ·exact absurd h' hkk
    ·injection hge with e1 e2
     subst e1 e2;have hc:=hok g hgc;refine⟨fun _=>hc.len,fun hf=>(by rw[hc.frz] at hf; simp at hf),?_⟩;rw[hup g hgc];cases hgx:g.x with
     | none =>
      refine⟨(hc.void hgx).1,(hc.void hgx).2,hmp g hgc,fun hp=>?_⟩;rcases hver g hgc with ⟨hp',_⟩ | ⟨b',g1,_,_,_,g5⟩
      ·exact absurd hp hp'
      ·obtain⟨_,_,hB⟩:=h.boxes g.nm b' g1
       rw[g5,hgx] at hB;exact hB.2.2.2 hp
     | some kc =>
      obtain⟨k,C⟩:=kc;obtain⟨hN,⟨arr,Ty,a1,a2,a3⟩,hroom,hcap,hone,hfree⟩:=hc.blk k C hgx;refine⟨?_,⟨fun _=>⟨arr,Ty,a1,a2,fun i c v hc' hv=>(a3 i c v hc' hv).repM (fun hf b o hs=>.inr ⟨hs,.inl hf⟩) fun g hgc=>⟨hup g hgc,hgetc g hgc,hmp g hgc⟩⟩,fun hm=>ZcB hm (hmp g hgc)⟩,fun _=>hroom,hcap,fun o hs=>absurd (h2S' k o hs) (hfree o),fun hf=>(by rw[hc.frz] at hf; simp at hf),hone⟩;rcases hver g hgc with ⟨hp,_⟩ | ⟨b',g1,_,_,_,g5⟩
      ·refine .inl ⟨hp,?_⟩
       rcases hN with h' | h'
       ·exact .inl (Nat.le_trans h.base h')
       ·exact(hkB k h').imp id fun h'=>⟨h',hmp g hgc⟩
      ·obtain⟨_,_,hB⟩:=h.boxes g.nm b' g1
       rw[g5,hgx] at hB;exact hB.base
   ·have h1:nm ∉ ch.map (·.nm):=fun h'=>by
     obtain⟨g,hgc,rfl⟩:=List.mem_map.1 h';exact hn g.nb (List.mem_append_right _ (List.mem_map.2 ⟨g,hgc,rfl⟩)) rfl
    have h3:fz=true→nm ∉ lent:=fun hf h'=>by
     have hm:(nm,{ b with frz:=true })∈fr:=by rw[← hfr,if_pos hf]; exact frzL_mem h' hb0
     exact hn _ (List.mem_append_left _ hm) rfl
    refine .inl ⟨hb0,hupn h1,fun k C hbm=>⟨hblk k ((h.boxes nm b hb0).lt hbm) (hin0 hb0 hbm h1),fun o hs=>?_⟩⟩;rcases hs with hs | ⟨hs,hs2⟩
    ·exact hs
    ·rcases hg.fresh k o hs with (h' | ⟨m,hm',b',C',f1,f2,f3⟩) | h' | h'
     ·exact h'
     ·have:=h.inj nm m b b' k C C' hb0 f1 hbm f2
      subst this;rcases hs2 with hs2 | hs2
      ·exact absurd hm' (h3 hs2)
      ·have:=(h.boxes nm b hb0).lt hbm; omega
     ·have:=(h.boxes nm b hb0).lt hbm; omega
     ·exact absurd h' (hin0 hb0 hbm h1)
  ·have key:∀ nm b k C,getB (ZZ st.boxes (fr++ch.map Chg.nb)) nm=some b→upC bm ch nm=some (k,C)→(∃ g∈ch,g.nm=nm∧g.x=some (k,C)∧(w.heap.size≤k∨k∈ks0))∨(nm ∉ ch.map (·.nm)∧bm nm=some (k,C)∧k<w.heap.size∧k ∉ ks0∧∃ b0,getB st.boxes nm=some b0):=by
    intro nm b k C hb hu;by_cases h1:nm∈ch.map (·.nm)
    ·left
     obtain⟨g,hgc,rfl⟩:=List.mem_map.1 h1;rw[hup g hgc] at hu;exact⟨g,hgc,rfl,hu,((hok g hgc).blk k C hu).1⟩
    ·right
     rw[hupn h1] at hu
     have hb0:∃ b0,getB st.boxes nm=some b0:=by
      rcases getB_setBs_inv hb with ⟨b1,hm⟩ | ⟨_,hb0⟩
      ·simp only[List.mem_append,List.mem_map] at hm
       rcases hm with hm | ⟨g,hgc,hge⟩
       ·obtain⟨_,_,b0,g1,_⟩:=hfr1 _ hm; exact⟨b0,g1⟩
       ·injection hge with e1 e2
        exact absurd (e1 ▸ hchn g hgc) h1
      ·exact⟨_,hb0⟩
     obtain⟨b0,hb0⟩:=hb0;exact⟨h1,hu,(h.boxes nm b0 hb0).lt hu,hin0 hb0 hu h1,b0,hb0⟩
   rcases key nm b k C hb h1 with ⟨g,g1,g2,g3,g4⟩ | ⟨g1,g2,g3,g5,b0,g4⟩ <;> rcases key nm' b' k C' hb' h2 with ⟨f,f1,f2,f3,f4⟩ | ⟨f1,f2,f3,f5,b1,f4⟩
   ·rw[← g2,← f2]
    exact hblks g g1 f f1 k C C' g3 f3
   ·rcases g4 with g4 | g4
    ·omega
    ·exact absurd g4 f5
   ·rcases f4 with f4 | f4
    ·omega
    ·exact absurd f4 g5
   ·exact h.inj nm nm' b0 b1 k C C' g4 f4 g2 f2
theorem Zuv (h:Zl G B ks w0 S0 S bm st a w){g:Operand}{f:FuncId}{cs:List PV}(hf:Ze5 st.get g=some (f,cs)):∃ us:List Value,a.eval g = .func (.func f) #[] us.toArray∧Zk (X9 S w bm st.boxes) cs us:=by
 cases g with
 | tmp t =>
  simp only[Ze5] at hf;have hs:=h.slot t;show ∃ us:List Value,a.tmps.getD t undef=_∧_
  generalize a.tmps.getD t undef=v at hs;split at hf <;> simp only[Option.some.injEq,reduceCtorEq,Prod.mk.injEq] at hf
  ·rename_i f' he
   obtain⟨rfl,rfl⟩:=hf;rw[he] at hs;cases hs with
   | base hs=>cases hs; exact⟨[],rfl,.nil⟩
  ·rename_i f' ps he
   obtain⟨rfl,rfl⟩:=hf;rw[he] at hs;cases hs with
   | base hs=>cases hs with
    | clo hs=>exact⟨_,rfl,Zk.mono hs fun _ _ h=>.base h.toB⟩
 | func f'=>simp[Ze5] at hf; obtain⟨rfl,rfl⟩:=hf; exact⟨[],rfl,.nil⟩
 | const _=>simp[Ze5] at hf
 | global _=>simp[Ze5] at hf
def Zeu (bx:Boxes):List Nat→List Chg
 | []=>[]
 | nm :: l=>match getB bx nm with | some b=>⟨nm,⟨Zr bx nm,b.e,[],false,true⟩,none⟩ :: Zeu bx l | none=>Zeu bx l
theorem killC_nb:∀ {l:List Nat},ZjT bx l=(Zeu bx l).map Chg.nb
 | []=>rfl
 | nm :: l=>by
  simp only[ZjT,Zeu];cases getB bx nm with
  | none=>exact killC_nb
  | some b=>simp[Chg.nb,killC_nb (l:=l)]
theorem killC_nm:∀ {l:List Nat},(∀ nm∈l,∃ b,getB bx nm=some b)→(Zeu bx l).map (·.nm)=l
 | [],_=>rfl
 | nm :: l,h=>by
  obtain⟨b,hb⟩:=h nm (by simp);have:=killC_nm (l:=l) fun m hm=>h m (List.mem_cons_of_mem _ hm)
  simp[Zeu,hb,this]
theorem killC_spec:∀ {l:List Nat}{g:Chg},g∈Zeu bx l→g.nm∈l∧g.x=none∧g.b.ver=Zr bx g.nm∧g.b.els=[]∧g.b.row=true∧g.b.frz=false
 | [],g,h=>by simp[Zeu] at h
 | nm :: l,g,h=>by
  simp only[Zeu] at h;split at h
  ·rcases List.mem_cons.1 h with rfl | h
   ·simp
   ·obtain⟨h1,h2⟩:=killC_spec h
    exact⟨by simp[h1],h2⟩
  ·obtain⟨h1,h2⟩:=killC_spec h
   exact⟨by simp[h1],h2⟩
theorem nodup_blk:∀ {ch:List Chg},(Zq (ch.map (·.x))).Nodup→∀ g∈ch,∀ g'∈ch,∀ k C C',g.x=some (k,C)→g'.x=some (k,C')→g.nm=g'.nm
 | [],_,g,hg,_,_,_,_,_,_,_=>by simp at hg
 | c :: ch,hn,g,hg,g',hg',k,C,C',h1,h2=>by
  have hmem:∀ {q C},q∈ch→q.x=some (k,C)→k∈Zq (ch.map (·.x)):=fun {q C} hq he=>List.mem_filterMap.2 ⟨q.x,List.mem_map.2 ⟨q,hq,rfl⟩,by rw[he]; rfl⟩
  have hn':(Zq (ch.map (·.x))).Nodup:=by
   unfold Zq at hn ⊢;rw[List.map_cons,List.filterMap_cons] at hn;split at hn
   ·exact hn
   ·exact(List.nodup_cons.1 hn).2
  have hhd:∀ {C},c.x=some (k,C)→k ∉ Zq (ch.map (·.x)):=by
   intro C he;have:Zq ((c :: ch).map (·.x))=k :: Zq (ch.map (·.x)):=by simp[Zq,he]
   rw[this,List.nodup_cons] at hn;exact hn.1
  rcases List.mem_cons.1 hg with e1 | e1 <;> rcases List.mem_cons.1 hg' with e2 | e2
  ·rw[e1,e2]
  ·rw[e1] at h1
   exact absurd (hmem e2 h2) (hhd h1)
  ·rw[e2] at h2
   exact absurd (hmem e1 h1) (hhd h2)
  ·exact nodup_blk hn' g e1 g' e2 k C C' h1 h2
theorem ZfE.blks {its:List Item}{c:Cell}{v:Value}(h:ZfE S' w' N its c v):∀ k∈Zq its,N k:=by
 cases h with
 | pure h=>simp[Zq]
 | none e x=>simp[Zq]
 | own e els n k C hn ho=>intro q hq; simp[Zq] at hq; subst hq; exact ho.new
theorem ZeX.blks {its:List Item}{c:List Cell}{v:List Value}(h:ZeX S' w' N its c v):∀ k∈Zq its,N k:=by
 induction h with
 | nil=>simp[Zq]
 | cons h _ ih=>intro k hk; rw[Ym] at hk; rcases List.mem_append.1 hk with h' | h'; exact h.blks k h'; exact ih k h'
theorem ZiQ.blks {its:List Item}{p:PV}{v:Value}(h:ZiQ S' w' N its p v):∀ k∈Zq its,N k:=by
 cases h with
 | one h=>exact h.blks
 | agg h=>exact h.blks
 | io cs k hN hv =>
  obtain⟨_,_,_,_,_,h,_⟩:=hv;intro q hq;rcases List.mem_cons.1 (show q∈k :: Zq _ from hq) with rfl | hq
  ·exact hN
  ·exact h.blks q hq
theorem ZkI.blks {its:List Item}{p:List PV}{v:List Value}(h:ZkI S' w' N its p v):∀ k∈Zq its,N k:=by
 induction h with
 | nil=>simp[Zq]
 | cons h _ ih=>intro k hk; rw[Ym] at hk; rcases List.mem_append.1 hk with h' | h'; exact h.blks k h'; exact ih k h'
theorem ZiR.blks {its:List Item}{p:PV}{v:Value}(h:ZiR S' w' N its p v):∀ k∈Zq its,N k:=by
 cases h with
 | base h=>exact h.blks
 | tup h=>exact h.blks
theorem Zco.blks {B0:Nat}{ks0:List Nat}{ps:List PV}{vs:List Value}{jts:List Item}{outs:List (List Cell)}(h:Zco S' w' N B0 ks0 ps vs jts outs):∀ k∈Zq jts,N k:=by
 induction h with
 | nil=>simp[Zq]
 | skip _ _ _ ih=>exact ih
 | io h _ ih =>
  obtain⟨_,_,_,_,_,h,_⟩:=h;intro k hk;rw[Ym] at hk;rcases List.mem_append.1 hk with h' | h'
  ·exact h.blks k h'
  ·exact ih k h'
 | rio _ _ _ _ ih=>exact ih
 | rio0 _ _ ih=>exact ih
set_option maxHeartbeats 1000000 in
theorem Zxe (hT:∀ f F,T f=some F→Zd9 P G (f % 1000000) F) (h:Zl G B ks w0 S0 S bm st a w){g:Operand}{args:Array Operand}{ts:Array TypeId}{u:Upd}
  (ho:o.op = .call { callee:=.value g,args:=args,argTypes:=ts }) (hu:eff tt T G o st.get st.boxes=some u):o.wp P a w (Sim G B ks w0 S0 (u.app st)) Q:=by
 unfold eff at hu;rw[ho] at hu;simp only at hu;split at hu
 ·rename_i f cps ps hf hps
  obtain⟨us,hfe,hcr⟩:=Zuv h hf;generalize hps2:ps++cps=ps2 at hu;unfold Zj2 at hu;generalize hown:T.own (o.dst.getD 90000)=hh at hu;split at hu
  ·rename_i F qs hF hqs
   split at hu
   ·rename_i r outs hr
    simp only at hu;split at hu
    ·rename_i bo br p bn hbo hland
     split at hu <;> simp only[Option.some.injEq,reduceCtorEq] at hu
     rename_i hc;simp only[Bool.and_eq_true] at hc;obtain⟨⟨⟨⟨⟨hc1,hc2⟩,hc3⟩,hc5⟩,hc6⟩,hc4⟩:=hc;have hI:=Zxd hT hF;have hargs:Zk (X9 S w bm st.boxes) ps2 (args.toList.map a.eval++us):=by rw[← hps2]; exact(Zm5 h hps).append hcr
     have hnames:=nodupB_spec hc1
     have hdis:∀ nm∈XR st.boxes hh ps2,nm ∉ ioPs hh ps2++Zdc st.boxes hh ps2++(br++bn).map (·.1):=by
      intro nm hn;have:=List.all_eq_true.1 hc2 nm hn;simpa using this
     obtain⟨ks0,hs0,hA,hio,hhs,hhand,hlent⟩:=Zss h (lent:=XR st.boxes hh ps2) hargs hqs (fun _ h=>h) (fun nm hn hm=>hdis nm hm (List.mem_append_left _ (List.mem_append_left _ hn))) (fun nm hn hm=>hdis nm hm (List.mem_append_left _ (List.mem_append_right _ hn)))
     have hslt:∀ b o,orS S (Yu bm st.boxes (XR st.boxes hh ps2)) b o→b<w.heap.size:=by
      rintro b o (hs | ⟨nm,_,b',C,g1,g2,_⟩)
      ·exact h.slt b o hs
      ·exact(h.boxes nm b' g1).lt g2
     generalize hid:ioPs hh ps2=ios at *;generalize hhd:Zdc st.boxes hh ps2=hd at *;generalize hln:XR st.boxes hh ps2=lent at *;have hndI:(ios++hd).Nodup:=nodupB_spec hc6;have hdi:∀ nm∈ios,nm ∉ hd:=fun nm hn hm=>(List.nodup_append.1 hndI).2.2 nm hn nm hm rfl
     have hnio:ios.Nodup:=(List.nodup_append.1 hndI).1
     have hhsb:∀ k∈hs0,∃ nm b C,nm∈hd∧getB st.boxes nm=some b∧bm nm=some (k,C)∧b.frz=false∧ZB nm=false:=by
      intro k hk;rw[hhs] at hk;simp only[XO,List.mem_filterMap,Option.map_eq_some_iff] at hk;obtain⟨nm,hn,⟨k',C⟩,g1,g2⟩:=hk;simp only at g2;subst g2;obtain⟨b,f1,f2,f3,f4⟩:=hhand nm hn;exact⟨nm,b,C,hn,f1,g1,f2,ZbO f4⟩
     have hndB:(ks0++hs0).Nodup:=by
      refine List.nodup_append.2 ⟨IoV.nodup h hio hnio,?_,fun x hx y hy he=>?_⟩
      ·rw[hhs]
       refine Zmx h (List.nodup_append.1 hndI).2.1 fun nm hn=>?_
       obtain⟨b,g1,_⟩:=hhand nm hn;exact⟨b,g1⟩
      ·subst he
       obtain⟨nm',b',C',f0,f1,f2,_⟩:=hhsb x hy;rcases hio.blk x hx with ⟨_,nm,b,C,g0,g1,g2,_⟩ | ⟨hk,_⟩
       ·have:=h.inj nm nm' b b' x C C' g1 f1 g2 f2
        subst this;exact hdi nm g0 f0
       ·have:=(h.boxes nm' b' f1).lt f2
        omega
     have hold:∀ nm b k C,getB st.boxes nm=some b→bm nm=some (k,C)→ZB nm=false→∃ arr T,w.heap[k]? = some (.cells arr T (0,0))∧C * b.e≤arr.size:=by
      intro nm b k C hb hbm hmap;obtain⟨_,_,hB⟩:=h.boxes nm b hb;rw[hbm] at hB;obtain⟨arr,Ty,a1,a2,_⟩:=hB.blk hmap;exact⟨arr,Ty,a1,by omega⟩
     have he:(List.map a.eval args.toList++us).toArray=args.map a.eval++us.toArray:=by
      have:(List.map a.eval args.toList).toArray=args.map a.eval:=by rw[← Array.toList_map]
      rw[← this];simp
     suffices key:∀ (w':World) (v:Value) (S':Nat→Nat→Prop) (its jts:List Item),ZiR S' w' (fun k=>w.heap.size≤k∨k∈hs0) its r v→Zco S' w' (fun k=>w.heap.size≤k∨k∈hs0) w.heap.size ks0 qs (List.map a.eval args.toList++us) jts outs→(Zq jts++Zq its).Nodup→ZnR (orS S (Yu bm st.boxes lent)) S' w w' (ks0++hs0)→Sim G B ks w0 S0 (Upd.app u st) (a.put o.dst v) w' by
      have hgl:=h.glob.mono (S' := orS S (Yu bm st.boxes lent)) (w' := w) (fun _ _ h=>.inl h) (fun _ _ _=>rfl);rcases hI with ⟨⟨fn,hfn,hbody,hname⟩,hcall⟩ | hcallX
      ·have hrun:(execOp a.eval o).run P w = .ok (.enter f (args.map a.eval++us.toArray)) w:=by
        simp only[execOp,ho,resolve,hfe,Deferred.ofValue,Sem.run_bind,Sem.run_pure,Result.andThen_ok,invoke,callFunc,run_program,hfn];simp[hname,hbody]
       unfold Oper.wp;rw[hrun];simp only[Oper.upon];have hcl:=hcall (orS S (Yu bm st.boxes lent)) w ks0 hs0 _ _ r outs hgl hslt hA hndB hr;rw[he] at hcl;refine hcl.mono ?_;rintro e w' ⟨v,S',its,jts,rfl,hrep,hiok,hndr,hg⟩
       exact key w' v S' its jts hrep hiok hndr hg
      ·obtain⟨v,S',its,jts,hrv,hrep,hiok,hndr,hg⟩:=hcallX (orS S (Yu bm st.boxes lent)) w ks0 hs0 _ _ r outs hgl hslt hA hndB hr
       rw[he] at hrv
       have hrun:(execOp a.eval o).run P w = .ok (.value v) w:=by
        simp only[execOp,ho,resolve,hfe,Deferred.ofValue,Sem.run_bind,Sem.run_pure,Result.andThen_ok,invoke];simpa using hrv
       exact Yi hrun (key w v S' its jts hrep hiok hndr hg)
     intro w' v S' its jts hrep hiok hndr hg;subst hu;generalize hfz:(hasSlR r || outs.any hasSlL)=fz at hc4;have hsr:fz=false→hasSlR r=false:=fun hf=>by rw[hf] at hfz; simp only[Bool.or_eq_false_iff] at hfz; exact hfz.1
     have hso:fz=false→outs.any hasSlL=false:=fun hf=>by rw[hf] at hfz; simp only[Bool.or_eq_false_iff] at hfz; exact hfz.2
     obtain⟨cR,rfl,r2,r3,r4⟩:=hrep.land (fz:=fz) hsr hland;obtain⟨co,cr,rfl,rfl,o3,o4,o5,o7,o6⟩:=Zco.land (fz:=fz) hio rfl hg.keep (fun k hk=>List.mem_append_left _ hk) hold hiok hso hbo;have hNm:∀ {l:List Chg},(l.map Chg.nb).map (·.1)=l.map (·.nm):=fun {l}=>by rw[List.map_map]; rfl
     rw[← List.map_append,hNm,List.map_append] at hnames hdis hc5 ⊢;rw[killC_nb];generalize hkl:hd.filter (fun x=>!(List.map (·.nm) cr++List.map (·.nm) cR).contains x)=kl
     have hklm:∀ nm∈kl,nm∈hd∧nm ∉ List.map (·.nm) cr++List.map (·.nm) cR:=by
      intro nm hn;rw[← hkl] at hn;have:=List.mem_filter.1 hn;exact⟨this.1,by simpa using this.2⟩
     have hkn:(Zeu st.boxes kl).map (·.nm)=kl:=killC_nm fun nm hn=>by obtain⟨b,g1,_⟩:=hhand nm (hklm nm hn).1; exact⟨b,g1⟩
     have hchnm:(co++(cr++cR++Zeu st.boxes kl)).map (·.nm)=ios++(List.map (·.nm) cr++List.map (·.nm) cR)++kl:=by simp[o5,hkn]
     have hin_new:∀ g,g∈cr++cR→g.nm∈List.map (·.nm) cr++List.map (·.nm) cR:=fun g hg=>by rw[← List.map_append]; exact List.mem_map.2 ⟨g,hg,rfl⟩
     have hnewOk:∀ g,g∈cr++cR→okN g.nm=true:=fun g hg=>by
      simp only[Zb5,List.all_eq_true] at hc5;exact hc5 _ (hin_new g hg)
     have hland2:ZdH S' w' fz (fun k=>w.heap.size≤k∨k∈hs0) st.boxes (cr++cR):=o4.append r3
     obtain⟨S2,hS2f,hsim,hbx⟩:=h.behind (lent:=lent) (ks0:=ks0++hs0) (fz:=fz) (ch:=co++(cr++cR++Zeu st.boxes kl)) hlent (fun hf=>by rw[hf] at hc4; simpa using hc4) hg
      (fun k hk=>by
       rcases List.mem_append.1 hk with hk | hk
       ·rcases hio.blk k hk with ⟨_,nm,b,C,hn,g1,g2,g3,g6⟩ | hk
        ·exact .inl ⟨nm,b,C,by rw[hchnm]; simp[hn],g1,g2,g3,g6⟩
        ·exact .inr hk.1
       ·left
        obtain⟨nm,b,C,hn,f1,g1,f2,f4⟩:=hhsb k hk;refine⟨nm,b,C,?_,f1,g1,f2,f4⟩;rw[hchnm];by_cases hm:nm∈List.map (·.nm) cr++List.map (·.nm) cR
        ·exact List.mem_append_left _ (List.mem_append_right _ hm)
        ·refine List.mem_append_right _ ?_
         rw[← hkl]
         exact List.mem_filter.2 ⟨hn,by simpa using hm⟩)
      (by
       rw[hchnm];refine List.nodup_append.2 ⟨hnames,?_,fun x hx y hy he=>?_⟩
       ·rw[← hkl]; exact(List.nodup_append.1 hndI).2.1.filter _
       ·subst he
        rcases List.mem_append.1 hx with hx | hx
        ·exact hdi x hx (hklm x hy).1
        ·exact(hklm x hy).2 hx)
      (fun g hgc=>by
       rcases List.mem_append.1 hgc with hgc | hgc
       ·exact((o6 g hgc).2 _ fun q hq=>List.mem_append_right _ (List.mem_append_left _ (List.mem_append_left _ hq))).mono (fun _ h=>h) fun k hk=>.inr (List.mem_append_left _ hk)
       ·rcases List.mem_append.1 hgc with hgc | hgc
        ·exact((hland2 g hgc).2 _ fun q hq=>List.mem_append_right _ (List.mem_append_left _ hq)).mono (fun _ h=>h) fun k hk=>hk.imp id fun h=>List.mem_append_right _ h
        ·obtain⟨_,k2,_,k4,k5,k6⟩:=killC_spec hgc
         exact⟨k6,by rw[k4]; simp,fun _=>⟨k4,k5⟩,fun k C hx=>by rw[k2] at hx; cases hx⟩)
      (fun g hgc=>by
       rcases List.mem_append.1 hgc with hgc | hgc
       ·obtain⟨⟨b,_,g5,_⟩,_⟩:=o6 g hgc; exact g5
       ·rcases List.mem_append.1 hgc with hgc | hgc
        ·exact ZbO (hnewOk g hgc)
        ·obtain⟨b,_,_,_,f4⟩:=hhand g.nm (hklm _ (killC_spec hgc).1).1; exact ZbO f4)
      (fun g hgc=>by
       have hnv:g.b.ver=Zr st.boxes g.nm→∀ b,getB st.boxes g.nm=some b→b.ver<g.b.ver:=fun hv b hb=>by rw[hv]; simp[Zr,hb]
       rcases List.mem_append.1 hgc with hgc | hgc
       ·obtain⟨⟨b,g1,g5,g6,g7,g8,g9⟩,_⟩:=o6 g hgc
        exact .inr ⟨b,g1,g6,g7,g8,g9⟩
       ·left
        rcases List.mem_append.1 hgc with hgc | hgc
        ·exact⟨ZcA (hnewOk g hgc),hnv (hland2 g hgc).1⟩
        ·obtain⟨b,_,_,_,f4⟩:=hhand g.nm (hklm _ (killC_spec hgc).1).1
         exact⟨ZcA f4,hnv (killC_spec hgc).2.2.1⟩)
      (nodup_blk (by
       have hkz:Zq ((Zeu st.boxes kl).map (·.x))=[]:=by
        have:∀ l:List Chg,(∀ g∈l,g.x=none)→Zq (l.map (·.x))=[]:=by
         intro l hl;induction l with
         | nil=>rfl
         | cons c l ih =>
          have h1:=hl c (by simp);have h2:=ih fun g hg=>hl g (by simp[hg])
          unfold Zq at h2 ⊢;rw[List.map_cons,List.filterMap_cons,h1];exact h2
        exact this _ fun g hg=>(killC_spec hg).2.1
       have hall:Zq ((co++(cr++cR++Zeu st.boxes kl)).map (·.x))=Zq (co.map (·.x))++(Zq jts++Zq its):=by
        rw[List.map_append,List.map_append,List.map_append,Ym,Ym,Ym,o3,r2,hkz,List.append_nil]
       rw[hall];refine List.nodup_append.2 ⟨o7.nodup (List.nodup_append.1 hndB).1,hndr,fun x hx y hy he=>?_⟩;subst he
       have hN:w.heap.size≤x∨x∈hs0:=by
        rcases List.mem_append.1 hy with hy | hy
        ·exact hiok.blks x hy
        ·exact hrep.blks x hy
       rcases hN with hN | hN
       ·simp only[Zq,List.mem_filterMap,List.mem_map,Option.map_eq_some_iff] at hx
        obtain⟨_,⟨g,hgc,rfl⟩,⟨k,C⟩,g1,g2⟩:=hx;simp only at g2;subst g2;obtain⟨⟨b,f1,_,_,_,_,f2⟩,_⟩:=o6 g hgc;have:=(h.boxes g.nm b f1).lt (f2.trans g1);omega
       ·exact(List.nodup_append.1 hndB).2.2 x (o7.subset hx) x hN rfl))
      (fun nm hn hm=>by
       rw[hchnm] at hm;have:=hdis nm hn;rcases List.mem_append.1 hm with hm | hm
       ·rcases List.mem_append.1 hm with hm | hm
        ·exact this (List.mem_append_left _ (List.mem_append_left _ hm))
        ·exact this (List.mem_append_right _ hm)
       ·exact this (List.mem_append_left _ (List.mem_append_right _ (hklm nm hm).1)))
     have hV:=r4.repV (S2:=S2) (bm2:=upC bm (co++(cr++cR++Zeu st.boxes kl))) (bx2:=ZZ st.boxes ((if fz then Xw st.boxes lent else[])++(co++(cr++cR++Zeu st.boxes kl)).map Chg.nb)) (fun hf b o hs=>by rw[hS2f hf]; exact hs) fun g hgc=>hbx g (List.mem_append_right _ (List.mem_append_left _ (List.mem_append_right _ hgc)))
     refine⟨S2,upC bm (co++(cr++cR++Zeu st.boxes kl)),?_⟩;have:=hsim.putDst o.dst hV;subst hkl;simp only[List.map_append,List.append_assoc] at this ⊢;exact this
    ·simp at hu
   ·simp at hu
  ·simp at hu
 ·simp at hu
theorem Zyn (htt:∀ t i,tt t=some i→Z0 P t=some i) (hT:∀ f F,T f=some F→Zd9 P G (f % 1000000) F) (h:Zl G B ks w0 S0 S bm st a w){u:Upd}(hu:eff tt T G o st.get st.boxes=some u) :
  o.wp P a w (Sim G B ks w0 S0 (u.app st)) Q:=by
 have hpure:∀ {p},ZC tt G st.get o.op=some p→o.wp P a w (Sim G B ks w0 S0 (Upd.app ⟨Zdb o.dst p,[],[]⟩ st)) Q:=by
  intro p hp;obtain⟨v,h1,h2⟩:=ZpP htt h hp;exact Yi h1 ⟨S,bm,h.putDst o.dst h2⟩
 have hu0:=hu;unfold eff at hu;split at hu
 ·rename_i t heq; exact ZvR htt h heq hu0
 ·rename_i t x heq; exact Zyk h heq hu0
 ·rename_i t x heq; exact Zw9 htt h heq hu0
 ·rename_i t x y heq; exact ZvT htt h heq hu0
 ·rename_i t len parts heq; exact Zqx htt h heq hu0
 ·rename_i t l c heq; exact ZqW htt h heq hu0
 ·rename_i x y t t' heq; exact Zuo htt h heq hu0
 ·rename_i x y t t' heq; exact Zxa htt h heq hu0
 ·rename_i x t heq; exact ZvV htt h heq hu0
 ·rename_i g args ts heq; exact Zxe hT h heq hu0
 ·rename_i t heq; exact Zth htt h heq hu0
 ·rename_i t x k ok heq; exact Zuu htt h heq hu0
 ·rename_i t x k v heq; exact Zq1 htt h heq hu0
 ·rename_i src dst x heq; exact Zxc htt h heq hu0
 ·rename_i x t heq
  split at hu
  ·rename_i nm ver hx
   split at hu
   ·rename_i b i hb hi
    split at hu
    ·rename_i hd es k e hels hk
     split at hu <;> simp only[Option.some.injEq,reduceCtorEq] at hu
     rename_i hc;subst hu;exact Zxb htt h heq hx hb hi hels hk hc.1
    ·simp at hu
   ·simp at hu
  ·split at hu <;> simp at hu
   rename_i p hp;subst hu;exact hpure hp
 ·split at hu <;> simp at hu
  rename_i p hp;subst hu;exact hpure hp
end
section
variable {P:Program}{tt:TT}{T:Tab}{G:Glob}{B:Nat}{ks:List Nat}{w0:World}{S0 S S' S2:Nat→Nat→Prop}{bm bm' bm2:BM}{bx bx2:Boxes}{st st':ASt}{a:Act}{w w':World}{Q:Exit→Act→World→Prop}{o:Oper}{base:Nat}
theorem Zl.skipD (h:Zl G B ks w0 S0 S bm st a w) (d:Option Nat):Zl G B ks w0 S0 S bm ⟨Y5 st.env (Zdb d .skip),st.boxes⟩ (a.put d undef) w:=h.putDst d (.base .skip)
theorem Zst (h:Zl G B ks w0 S0 S bm st a w){ops:List Oper}{r:Bool}(hr:Zot ops st.get o.guard=some r):Region.wanted o (yielded ops.toArray a.tmps)=r:=by
 unfold Region.wanted;unfold Zot at hr;cases hg:o.guard with
 | none=>rw[hg] at hr; simp at hr; simp[hr]
 | some gw =>
  obtain⟨j,want⟩:=gw;rw[hg] at hr;simp only at hr ⊢;unfold yielded;simp only[List.getElem?_toArray];cases hj:ops[j]? with
  | none=>simp[hj] at hr; simp[← hr]
  | some o' =>
   rw[hj] at hr;simp only at hr;cases hd:o'.dst with
   | none=>simp[hd] at hr; simp[hd,← hr]
   | some d =>
    rw[hd] at hr;simp only at hr;have hs:=h.slot d;simp only[Option.bind_some,hd];split at hr
    ·rename_i b he
     simp at hr
     rw[he] at hs
     have hv:a.tmps.getD d undef = .bool b:=by
      generalize a.tmps.getD d undef=v at hs;cases hs with
      | base hs=>cases hs with
       | one hs=>have hs:=hs.pureC rfl; cases hs; rfl
     have ht:a.tmps[d]? = some (.bool b):=by
      cases hq:a.tmps[d]? with
      | none=>simp[Array.getD_eq_getD_getElem?,hq,undef] at hv
      | some v=>simp[Array.getD_eq_getD_getElem?,hq] at hv; rw[hv]
     simp[ht,← hr]
    ·rename_i he
     simp at hr
     rw[he] at hs
     have hv:a.tmps.getD d undef=undef:=by
      generalize a.tmps.getD d undef=v at hs;cases hs with
      | base hs=>cases hs; rfl
     cases hq:a.tmps[d]? with
     | none=>simp[← hr]
     | some v =>
      simp[Array.getD_eq_getD_getElem?,hq] at hv
      subst hv;simp[undef,← hr]
    ·simp at hr
theorem Zq2 (htt:∀ t i,tt t=some i→Z0 P t=some i) (hT:∀ f F,T f=some F→Zd9 P G (f % 1000000) F) (h:Sim G B ks w0 S0 st a w){ops:List Oper}{u:Upd}(hr:Zhh tt T G ops o st=some u) :
  if Region.wanted o (yielded ops.toArray a.tmps) then o.wp P a w (Sim G B ks w0 S0 (u.app st)) Q else Sim G B ks w0 S0 (u.app st) (a.put o.dst undef) w:=by
 obtain⟨S,bm,h⟩:=h;unfold Zhh at hr;split at hr
 ·rename_i hg
  rw[Zst h hg];exact Zyn htt hT h hr
 ·rename_i hg
  rw[Zst h hg];simp at hr
  subst hr;exact⟨S,bm,h.skipD o.dst⟩
 ·simp at hr
theorem Zxf (htt:∀ t i,tt t=some i→Z0 P t=some i) (hT:∀ f F,T f=some F→Zd9 P G (f % 1000000) F) (h:Sim G B ks w0 S0 st a w){ops:List Oper}(hr:Zs5 tt T G ops o st=some st') :
  if Region.wanted o (yielded ops.toArray a.tmps) then o.wp P a w (Sim G B ks w0 S0 st') Q else Sim G B ks w0 S0 st' (a.put o.dst undef) w:=by
 unfold Zs5 at hr;split at hr <;> simp at hr
 rename_i u hu;subst hr;exact Zq2 htt hT h hu
theorem Zpt (htt:∀ t i,tt t=some i→Z0 P t=some i) (hT:∀ f F,T f=some F→Zd9 P G (f % 1000000) F){ops:List Oper}:∀ {l:List Oper}{st:ASt}{a:Act}{w:World},Sim G B ks w0 S0 st a w→Zdd tt T G ops l st=some st' →
  (∀ a w,Sim G B ks w0 S0 st' a w→Q .normal a w)→wpList P ops.toArray Q l a w
 | [],st,a,w,h,hr,hq=>by
  simp[Zdd] at hr
  subst hr;exact hq _ _ h
 | o :: l,st,a,w,h,hr,hq=>by
  simp only[Zdd] at hr;split at hr
  ·rename_i st1 h1
   have:=Zxf (Q:=Q) htt hT h h1;unfold wpList;split
   ·rename_i hw
    rw[if_pos hw] at this;exact .inl (Oper.wp_mono (fun a w hs=>Zpt htt hT hs hr hq) this)
   ·rename_i hw
    rw[if_neg hw] at this;exact Zpt htt hT this hr hq
  ·simp at hr
def AE.to:AE→Exit
 | .normal=>.normal
 | .exit id=>.exit id
 | .ret=>.ret
def Zq3 (G:Glob) (B:Nat) (ks:List Nat) (w0:World) (S0:Nat→Nat→Prop) (r:AE×ASt) (e:Exit) (a:Act) (w:World):Prop:=e=r.1.to∧Sim G B ks w0 S0 r.2 a w
theorem ZiD {ns:List Nat}{nm:Nat}:∀ {l:Boxes},getB (ZgF bx ns l) nm=if ns.contains nm=true then(getB l nm).map (fun b=>{ b with ver:=0,els:=YV bx ns b.els }) else none
 | []=>by simp[ZgF,getB]
 | (m,b) :: l=>by
  simp only[ZgF];split
  ·rename_i hm
   simp only[getB];split
   ·rename_i he; subst he; rw[if_pos hm]; rfl
   ·exact ZiD
  ·rename_i hm
   rw[ZiD];simp only[getB];split
   ·rename_i hn
    have:m≠nm:=by rintro rfl; exact hm hn
    rw[if_neg this]
   ·rfl
theorem Zpu {ns:List Nat}{c:Cell}{v:Value}(h:ZW S w bm bx c v):ZW S w bm (ZgF bx ns bx) (Zka bx ns c) v:=by
 have href:∀ {nm ver:Nat}{Q:Box→Prop}{b:Box},ZjU bx nm ver Q→getB bx nm=some b→b.ver=ver∧ns.contains nm=true→(∀ b',Q b→b'.e=b.e→b'.row=b.row→Q b')→ZjU (ZgF bx ns bx) nm 0 Q:=by
  intro nm ver Q b hr hb hc hq;obtain⟨b0,h1,h2,h3⟩:=hr;rw[hb] at h1;injection h1 with h1;subst h1;refine⟨{ b with ver:=0,els:=YV bx ns b.els },by rw[ZiD,if_pos hc.2,hb]; rfl,Nat.le_refl _,fun _=>hq _ (h3 hc.1) rfl rfl⟩
 cases h with
 | pure h =>
  have:Zka bx ns c=c:=by cases h <;> rfl
  rw[this];exact .pure h
 | ms nm ver i n e x c hmap h1 h2 h3 h4 =>
  simp only[Zka];split
  ·rename_i b hb
   split
   ·rename_i hc
    exact .ms nm 0 i n e x c hmap h1 h2 h3 (href h4 hb hc fun b' hq he hr=>⟨he.trans hq.1,hr.trans hq.2.1,hq.2.2⟩)
   ·exact .bad rfl
  ·exact .bad rfl
 | fv nm ver i n e x c hmap h1 h2 h3 h4 =>
  simp only[Zka];split
  ·rename_i b hb
   split
   ·rename_i hc
    exact .fv nm 0 i n e x c hmap h1 h2 h3 (href h4 hb hc fun b' hq he hr=>hq)
   ·exact .bad rfl
  ·exact .bad rfl
 | bad h=>exact .bad h
 | mp nm ver k hmap h4 =>
  simp only[Zka];split
  ·rename_i b hb
   split
   ·rename_i hc
    exact .mp nm 0 k hmap (href h4 hb hc fun b' hq he hr=>hq)
   ·exact .bad rfl
  ·exact .bad rfl
theorem Zla {ns:List Nat}{p:PV}{v:Value}(h:Zd8 S w bm bx p v):ZaK S w bm (ZgF bx ns bx) (Zlx bx ns p) v:=by
 cases h with
 | one h=>exact .one (Zpu h)
 | agg h=>exact .agg (Zk.map_left h fun _ _ h=>Zpu h)
 | ref b o vs h1 h2 h3=>exact .ref b o vs h1 h2 h3
 | fn f=>exact .fn f
 | ptr nm ver i off e k hmap h =>
  simp only[Zlx];split
  ·rename_i b hb
   split
   ·rename_i hc
    obtain⟨b0,h1,h2,h3⟩:=h;rw[hb] at h1;injection h1 with h1;subst h1;exact .ptr nm 0 i off e k hmap ⟨{ b with ver:=0,els:=YV bx ns b.els },by rw[ZiD,if_pos hc.2,hb]; rfl,Nat.le_refl _,fun _=>h3 hc.1⟩
   ·exact .undef _
  ·exact .undef _
theorem Zq4 {ns:List Nat}:∀ {ps:List PV}{vs:List Value},Zk (Zd8 S w bm bx) ps vs→(ps.map (Zlx bx ns)).all capOk=true→Zk (Zd8 S w bm (ZgF bx ns bx)) (ps.map (Zlx bx ns)) vs
 | [],vs,h,_=>by cases h; exact .nil
 | p :: ps,vs,h,hc=>by
  cases h with
  | cons h1 h2 =>
   simp only[List.map_cons,List.all_cons,Bool.and_eq_true] at hc;exact .cons ((Zla h1).cap hc.1) (Zq4 h2 hc.2)
theorem Zxg {ns:List Nat}{p:PV}{v:Value}(h:X9 S w bm bx p v):X9 S w bm (ZgF bx ns bx) (ZqO bx ns p) v:=by
 cases h with
 | tup h=>exact .base (.undef _)
 | base h=>cases h with
  | undef=>exact .base (.undef _)
  | skip=>exact .base .skip
  | one h=>exact .base (Zla (.one h))
  | agg h=>exact .base (Zla (.agg h))
  | ref b o vs h1 h2 h3=>exact .base (Zla (.ref b o vs h1 h2 h3))
  | fn f=>exact .base (.fn f)
  | ptr nm ver i off e k hmap h=>exact .base (Zla (.ptr nm ver i off e k hmap h))
  | clo h =>
   simp only[ZqO];split
   ·rename_i hc
    exact .base (.clo (Zq4 h hc))
   ·exact .base (.undef _)
theorem ZvY {ns:List Nat}{c:Cell}(h:c.pureB=true):Zka bx ns c=c:=by cases c <;> first | rfl | (simp[Cell.pureB] at h)
theorem ZpU {ns:List Nat}{cs:List Cell}(h:Yd cs=true):ZgB bx ns cs=cs:=by
 unfold ZgB
 conv=>rhs; rw[← List.map_id cs]
 refine List.map_congr_left fun c hc=>?_
 simp only[Yd,List.all_eq_true] at h;exact ZvY (h c hc)
theorem Zq5 {ns:List Nat}{e:Nat}{hd:List Cell}:∀ {ls:List (List Cell)}{es:List MapEntry},Zk (ZjV S w e hd) ls es→YV bx ns ls=ls
 | [],es,_=>rfl
 | l :: ls,es,h=>by
  cases h with
  | cons h1 h2 =>
   obtain⟨kx,vx,_,_,h3,_⟩:=h1;have:=Zq5 (ns:=ns) h2;simp only[YV,List.map_cons] at *;rw[this,ZpU (ZqX h3)]
theorem ZoX {ns:List Nat}{els:List (List Cell)}:(YV bx ns els).flatten=els.flatten.map (Zka bx ns):=by
 simp only[YV];rw[List.map_flatten];rfl
theorem Zxh (h:Zl G B ks w0 S0 S bm st a w) (kl ns:List Nat):Zl G B ks w0 S0 S bm ⟨st.env.zipIdx.map fun(p,i)=>if kl.contains i then ZqO st.boxes ns p else .undef,ZgF st.boxes ns st.boxes⟩ a w:=by
 refine⟨h.dfr,by simp[h.size],fun i p v hp hv=>?_,fun nm b hb=>?_,fun nm nm' b b' k C C' h1 h2 h3 h4=>?_,h.below,h.base,h.mono,h.fresh,h.slt,h.glob,h.ksin⟩
 ·simp only[List.getElem?_map,List.getElem?_zipIdx] at hp
  cases hq:st.env[i]? with
  | none=>simp[hq] at hp
  | some q =>
   simp only[hq,Option.map_some,Nat.zero_add] at hp;have hs:=h.slots i q v hq hv;simp only[Option.some.injEq] at hp;split at hp
   ·subst hp; exact Zxg hs
   ·subst hp; exact .base (.undef _)
 ·simp only at hb
  rw[ZiD] at hb;split at hb
  ·simp only[Option.map_eq_some_iff] at hb
   obtain⟨b0,hb0,rfl⟩:=hb;obtain⟨hes,hpu,hB⟩:=h.boxes nm b0 hb0;refine⟨?_,fun hf=>?_,?_⟩
   ·simp only[YV,List.mem_map]
    rintro hm l ⟨l',hl',rfl⟩
    simpa[ZgB] using hes hm l' hl'
   ·have:=hpu hf
    simp only[ZH,Yd,List.all_eq_true] at this;simp only[ZH,Yd,List.all_eq_true,YV,List.mem_map];rintro l ⟨l',hl',rfl⟩ x hx
    simp only[ZgB,List.mem_map] at hx;obtain⟨y,hy,rfl⟩:=hx;have h1:=this l' hl' y hy;cases y <;> first | exact h1 | (simp[Cell.pureB] at h1)
   ·cases hbm:bm nm with
    | none =>
     rw[hbm] at hB;simp only at hB ⊢;exact⟨by simp[hB.1,YV],hB.2⟩
    | some kc =>
     obtain⟨k,C⟩:=kc;rw[hbm] at hB;have hfl:(YV st.boxes ns b0.els).flatten.length=b0.els.flatten.length:=by rw[ZoX,List.length_map]
     refine⟨hB.base,⟨fun hm=>?_,fun hm=>?_⟩,fun hm=>by simpa[YV] using hB.room hm,hB.cap,fun o hs=>?_,fun hf o ho=>hB.held hf o (by simp only at ho; omega),hB.one⟩
     ·obtain⟨arr,Ty,ha1,ha2,ha3⟩:=hB.blk hm
      refine⟨arr,Ty,ha1,ha2,fun i c v hc hv=>?_⟩;simp only at hc;rw[ZoX,List.getElem?_map] at hc;cases hc0:b0.els.flatten[i]? with
      | none=>simp[hc0] at hc
      | some c0 =>
       simp only[hc0,Option.map_some,Option.some.injEq] at hc;subst hc;exact Zpu (ha3 i c0 v hc0 hv)
     ·obtain⟨es,cl,hd,ls,g1,g2,g3,g4,g5⟩:=hB.blk0.2 hm
      refine⟨es,cl,hd,ls,g1,?_,g3,g4,g5⟩;simp only;rw[g2];have:=Zq5 (bx:=st.boxes) (ns:=ns) g5;simp only[YV,List.map_cons] at *;rw[this,ZpU g3]
     ·have:=hB.free o hs
      exact⟨this.1,by simp only; omega⟩
  ·simp at hb
 ·have key:∀ m c,getB (ZgF st.boxes ns st.boxes) m=some c→∃ c0,getB st.boxes m=some c0:=by
   intro m c hm;rw[ZiD] at hm;split at hm
   ·simp only[Option.map_eq_some_iff] at hm
    obtain⟨b0,hb0,_⟩:=hm;exact⟨b0,hb0⟩
   ·simp at hm
  obtain⟨c1,g1⟩:=key nm b h1;obtain⟨c2,g2⟩:=key nm' b' h2;exact h.inj nm nm' c1 c2 k C C' g1 g2 h3 h4
theorem Zsu {c:Cell}{v:Value}(hc:isNil c=true) (h:ZW S w bm bx c v):∃ x,v = .slice x 0 0:=by
 unfold isNil at hc;split at hc
 ·have h:=h.pureC rfl
  cases h
  exact⟨_,rfl⟩
 ·simp at hc
theorem nil_no {bm:BM}{bx:Boxes}{c:Cell}{v:Value}(hc:isNil c=true) (h:ZW S w bm bx c v):ZW S w bm bx (.slice .no []) v:=by
 unfold isNil at hc;split at hc
 ·cases h with
  | pure h=>exact .pure h.nn
 ·simp at hc
theorem Zyo (h:Sim G B ks w0 S0 st a w) (x:Nat×Option Nat×Nat×Nat):Sim G B ks w0 S0 (mk1 st x) a w:=by
 obtain⟨S,bm,h⟩:=h;unfold mk1;split
 ·rename_i i
  split
  ·rename_i c hi
   split
   ·rename_i hc
    refine⟨S,bm,h.dfr,by simp[h.size],fun j p v hp hv=>?_,h.boxes,h.inj,h.below,h.base,h.mono,h.fresh,h.slt,h.glob,h.ksin⟩;simp only[List.getElem?_set] at hp;by_cases hj:i=j
    ·subst hj
     have hil:=Zm hi;simp only[if_true,hil] at hp;injection hp with hp;subst hp;have hr:=h.slots i _ v hi hv;cases hr with
     | base hr=>cases hr with
      | one hr=>exact .base (.one (nil_no hc hr))
    ·simp only[hj,if_false] at hp
     exact h.slots j p v hp hv
   ·exact⟨S,bm,h⟩
  ·exact⟨S,bm,h⟩
 ·rename_i i o
  split
  ·rename_i b hb
   split
   ·rename_i cs hcs
    split
    ·rename_i c hc0
     split
     ·rename_i hc
      obtain⟨hnil,hfz,hmapi⟩:=hc;refine⟨S,bm,?_⟩
      have hrefs:ZaX bm st.boxes bm (setB st.boxes i { b with els:=[cs.set o (.slice .no [])] }):=by
       intro m b0 hb0;by_cases hm:i=m
       ·subst hm
        rw[hb] at hb0;injection hb0 with hb0;subst hb0;exact⟨_,getB_self,Nat.le_refl _,fun _=>⟨rfl,rfl,rfl⟩⟩
       ·exact⟨b0,by rw[Xa hm]; exact hb0,Nat.le_refl _,fun _=>⟨rfl,rfl,rfl⟩⟩
      refine h.change hrefs (fun _ _ h=>h) (fun _ _ _=>rfl) (XE.refl _ _ _) (fun _ _ h=>.inl h) h.slt (fun m b1 hb1=>?_) (fun m m' b1 b2 k C C' h1 h2 h3 h4=>?_)
      ·rw[getB_set] at hb1
       split at hb1
       ·rename_i hm
        subst hm;simp at hb1
        subst hb1;right
        obtain⟨hes,hpu,hB⟩:=h.boxes i b hb;refine⟨fun hm l hl=>by simp at hl; subst hl; rw[List.length_set]; exact hes hm cs (by simp[hcs]),fun hf=>by simp only at hf; rw[hfz] at hf; simp at hf,?_⟩;cases hbm:bm i with
        | none=>rw[hbm] at hB; simp[hcs] at hB
        | some kc =>
         obtain⟨k,C⟩:=kc;rw[hbm] at hB;obtain⟨arr,Ty,ha1,ha2,ha3⟩:=hB.blk hmapi;refine⟨hB.base,⟨fun _=>⟨arr,Ty,ha1,ha2,fun j c' v hc' hv=>?_⟩,fun hm=>ZcB hm hmapi⟩,fun _=>by have:=hB.room hmapi; simp[hcs] at this; simpa using this,hB.cap,fun q hq=>?_,fun hf=>by simp only at hf; rw[hfz] at hf; simp at hf,hB.one⟩
         ·simp at hc'
          rw[List.getElem?_set] at hc';split at hc'
          ·rename_i hj
           subst hj;have hol:=Zm hc0;simp only[hol,if_true] at hc';injection hc' with hc';subst hc';exact(nil_no hnil (ha3 o c v (by rw[hcs]; simpa using hc0) hv)).mono (fun _ _ h=>h) (fun _ _ _=>rfl) hrefs
          ·exact(ha3 j c' v (by rw[hcs]; simpa using hc') hv).mono (fun _ _ h=>h) (fun _ _ _=>rfl) hrefs
         ·have:=(hB.free q hq).1
          rw[hfz] at this;simp at this
       ·exact .inl ⟨hb1,rfl,fun _ _ _=>⟨rfl,fun _ h=>h⟩⟩
      ·have key:∀ m c,getB (setB st.boxes i { b with els:=[cs.set o (.slice .no [])] }) m=some c→∃ c0,getB st.boxes m=some c0:=by
        intro m c hm;rw[getB_set] at hm;split at hm
        ·rename_i he; subst he; exact⟨b,hb⟩
        ·exact⟨c,hm⟩
       obtain⟨c1,g1⟩:=key m b1 h1;obtain⟨c2,g2⟩:=key m' b2 h2;exact h.inj m m' c1 c2 k C C' g1 g2 h3 h4
     ·exact⟨S,bm,h⟩
    ·exact⟨S,bm,h⟩
   ·exact⟨S,bm,h⟩
  ·exact⟨S,bm,h⟩
 ·rename_i i nm e _
  split
  ·rename_i c hi
   split
   ·rename_i hc
    have hs:=h.emptyBox nm (ZcA hc.2.2.2) (ZbO hc.2.2.2) (b' := ⟨0,e,[],false,true⟩) (fun b hb=>by rw[hc.2.1] at hb; cases hb) rfl rfl;refine⟨S,_,hs.dfr,by simp[hs.size],fun j p v hp hv=>?_,hs.boxes,hs.inj,hs.below,hs.base,hs.mono,hs.fresh,hs.slt,hs.glob,hs.ksin⟩;simp only[List.getElem?_set] at hp;by_cases hj:i=j
    ·subst hj
     have hil:=Zm hi;simp only[if_true,hil] at hp;injection hp with hp;subst hp;have hr:=h.slots i _ v hi hv;cases hr with
     | base hr=>cases hr with
      | one hr =>
       obtain⟨y,rfl⟩:=Zsu hc.1 hr;exact .base (.one (Zk8 (b:=⟨0,e,[],false,true⟩) (ZbO hc.2.2.2) rfl rfl (by simp) getB_self))
    ·simp only[hj,if_false] at hp
     exact hs.slots j p v hp hv
   ·exact⟨S,bm,h⟩
  ·exact⟨S,bm,h⟩
 ·rename_i i o nm e _
  split
  ·rename_i b hb
   split
   ·rename_i cs hcs
    split
    ·rename_i c hc0
     split
     ·rename_i hc
      obtain⟨hnil,hnone,he,hfz,hne,hokn,hmapi⟩:=hc;have hmap:ZB nm=false:=ZbO hokn;have hs:=h.emptyBox nm (ZcA hokn) hmap (b' := ⟨0,e,[],false,true⟩) (fun b hb=>by rw[hnone] at hb; cases hb) rfl rfl;have hbi:getB (setB st.boxes nm ⟨0,e,[],false,true⟩) i=some b:=by rw[Xa (Ne.symm hne)]; exact hb
      refine⟨S,(fun m=>if m=nm then none else bm m),?_⟩
      have hrefs:ZaX (fun m=>if m=nm then none else bm m) (setB st.boxes nm ⟨0,e,[],false,true⟩) (fun m=>if m=nm then none else bm m) (setB (setB st.boxes nm ⟨0,e,[],false,true⟩) i { b with els:=[cs.set o (.ms nm 0 0 0 e)] }):=by
       intro m b0 hb0;by_cases hm:i=m
       ·subst hm
        rw[hbi] at hb0;injection hb0 with hb0;subst hb0;exact⟨_,getB_self,Nat.le_refl _,fun _=>⟨rfl,rfl,rfl⟩⟩
       ·exact⟨b0,by rw[Xa hm]; exact hb0,Nat.le_refl _,fun _=>⟨rfl,rfl,rfl⟩⟩
      refine hs.change hrefs (fun _ _ h=>h) (fun _ _ _=>rfl) (XE.refl _ _ _) (fun _ _ h=>.inl h) hs.slt (fun m b1 hb1=>?_) (fun m m' b1 b2 k C C' h1 h2 h3 h4=>?_)
      ·rw[getB_set] at hb1
       split at hb1
       ·rename_i hm
        subst hm;simp at hb1
        subst hb1;right
        obtain⟨hes,hpu,hB⟩:=hs.boxes i b hbi;refine⟨fun hm l hl=>by simp at hl; subst hl; rw[List.length_set]; exact hes hm cs (by simp[hcs]),fun hf=>by simp only at hf; rw[hfz] at hf; simp at hf,?_⟩;simp only[hne,if_false] at hB ⊢;cases hbm:bm i with
        | none=>rw[hbm] at hB; simp[hcs] at hB
        | some kc =>
         obtain⟨k,C⟩:=kc;rw[hbm] at hB;obtain⟨arr,Ty,ha1,ha2,ha3⟩:=hB.blk hmapi;refine⟨hB.base,⟨fun _=>⟨arr,Ty,ha1,ha2,fun j c' v hc' hv=>?_⟩,fun hm=>ZcB hm hmapi⟩,fun _=>by have:=hB.room hmapi; simp[hcs] at this; simpa using this,hB.cap,fun q hq=>?_,fun hf=>by simp only at hf; rw[hfz] at hf; simp at hf,hB.one⟩
         ·simp at hc'
          rw[List.getElem?_set] at hc';split at hc'
          ·rename_i hj
           subst hj;have hol:=Zm hc0;simp only[hol,if_true] at hc';injection hc' with hc';subst hc';obtain⟨y,rfl⟩:=Zsu hnil (ha3 o c v (by rw[hcs]; simpa using hc0) hv);exact Zk8 (b:=⟨0,e,[],false,true⟩) hmap rfl rfl (by simp) (by rw[Xa hne]; exact getB_self)
          ·exact(ha3 j c' v (by rw[hcs]; simpa using hc') hv).mono (fun _ _ h=>h) (fun _ _ _=>rfl) hrefs
         ·have:=(hB.free q hq).1
          rw[hfz] at this;simp at this
       ·exact .inl ⟨hb1,rfl,fun _ _ _=>⟨rfl,fun _ h=>h⟩⟩
      ·have key:∀ m c,getB (setB (setB st.boxes nm ⟨0,e,[],false,true⟩) i { b with els:=[cs.set o (.ms nm 0 0 0 e)] }) m=some c→∃ c0,getB (setB st.boxes nm ⟨0,e,[],false,true⟩) m=some c0:=by
        intro m c hm;rw[getB_set] at hm;split at hm
        ·rename_i he; subst he; exact⟨b,hbi⟩
        ·exact⟨c,hm⟩
       obtain⟨c1,g1⟩:=key m b1 h1;obtain⟨c2,g2⟩:=key m' b2 h2;exact hs.inj m m' c1 c2 k C C' g1 g2 h3 h4
     ·exact⟨S,bm,h⟩
    ·exact⟨S,bm,h⟩
   ·exact⟨S,bm,h⟩
  ·exact⟨S,bm,h⟩
theorem mkAll_ok:∀ (l:List (Nat×Option Nat×Nat×Nat)){st:ASt},Sim G B ks w0 S0 st a w→Sim G B ks w0 S0 (ZqH st l) a w
 | [],st,h=>h
 | x :: l,st,h=>mkAll_ok l (Zyo h x)
theorem Zq6 (h:Zl G B ks w0 S0 S bm st a w){nm nm':Nat}{b:Box}(hb:getB st.boxes nm=some b) (hrow:b.row=true) (hne:nm≠nm') (hlt:okN nm=true) (hlt':okN nm'=true) :
  ∃ bm',Zl G B ks w0 S0 S bm' ⟨st.env,setB (setB st.boxes nm' { b with ver:=Zr st.boxes nm' }) nm ⟨b.ver+1,b.e,[],false,true⟩⟩ a w ∧
   (∀ n e v,ZW S w bm st.boxes (.ms nm b.ver 0 n e) v→ZW S w bm' (setB (setB st.boxes nm' { b with ver:=Zr st.boxes nm' }) nm ⟨b.ver+1,b.e,[],false,true⟩) (.ms nm' (Zr st.boxes nm') 0 n e) v)∧∀ m,m≠nm→m≠nm'→bm' m=bm m:=by
 have hmap:ZB nm=false:=ZbO hlt;have hmap':ZB nm'=false:=ZbO hlt'
 have hrefs:ZaX bm st.boxes (fun m=>if m=nm then none else if m=nm' then bm nm else bm m) (setB (setB st.boxes nm' { b with ver:=Zr st.boxes nm' }) nm ⟨b.ver+1,b.e,[],false,true⟩):=by
  intro m b0 hb0;by_cases hm:nm=m
  ·subst hm
   rw[hb] at hb0;injection hb0 with hb0;subst hb0;exact⟨_,getB_self,by simp,fun hq=>by simp at hq⟩
  ·rw[Xa hm]
   by_cases hm':nm'=m
   ·subst hm'
    refine⟨_,getB_self,?_,fun hq=>?_⟩
    ·simp[Zr,hb0]
    ·simp[Zr,hb0] at hq
   ·exact⟨b0,by rw[Xa hm']; exact hb0,Nat.le_refl _,fun _=>⟨rfl,rfl,by simp[Ne.symm hm,Ne.symm hm']⟩⟩
 refine⟨fun m=>if m=nm then none else if m=nm' then bm nm else bm m,?_,?_,fun m h1 h2=>by simp[h1,h2]⟩;rotate_left
 ·intro n e v hr
  cases hr with
  | pure hr=>cases hr
  | ms _ _ _ _ _ x c hmap g1 g2 g3 g4 =>
   obtain⟨b0,q1,q2,q3⟩:=g4;rw[hb] at q1;injection q1 with q1;subst q1;obtain⟨r1,r2,r3⟩:=q3 rfl;refine .ms _ _ _ _ _ _ _ hmap' g1 g2 g3 ⟨{ b with ver:=Zr st.boxes nm' },by rw[Xa hne]; exact getB_self,Nat.le_refl _,fun _=>⟨r1,r2,?_⟩⟩;unfold Loc at r3 ⊢;simp only[Ne.symm hne,if_false,if_true];simpa using r3
 exact h.change hrefs (fun _ _ h=>h) (fun _ _ _=>rfl) (XE.refl _ _ _) (fun _ _ h=>.inl h) h.slt (fun m b1 hb1=>by
  rw[getB_set] at hb1;split at hb1
  ·rename_i hm
   subst hm;simp at hb1
   subst hb1;exact .inr ⟨by simp,by simp,by simp[hmap,ZcA hlt]⟩
  ·rename_i hm
   rw[getB_set] at hb1;split at hb1
   ·rename_i hm'
    subst hm';simp at hb1
    subst hb1;right
    obtain⟨k1,k2,k3⟩:=h.boxes nm b hb;refine⟨fun _=>k1 hmap,k2,?_⟩;simp only[Ne.symm hm,if_false,if_true];cases hbm:bm nm with
    | none=>rw[hbm] at k3; exact⟨k3.1,k3.2.1,hmap',fun hp=>absurd hp (ZcA hlt')⟩
    | some kc =>
     obtain⟨k,C⟩:=kc;rw[hbm] at k3;have k4:ZjW S w bm st.boxes B ks nm k C b:=k3;simp only[hbm] at hrefs;obtain⟨arr,Ty,ha1,ha2,ha3⟩:=k4.blk hmap;refine⟨.inl ⟨ZcA hlt',?_⟩,⟨fun _=>⟨arr,Ty,ha1,ha2,fun j c v hc hv=>(ha3 j c v hc hv).mono (fun _ _ h=>h) (fun _ _ _=>rfl) hrefs⟩,fun hm=>ZcB hm hmap'⟩,fun _=>k4.room hmap,k4.cap,k4.free,k4.held,k4.one⟩;exact k4.base'.imp id fun h'=>⟨h'.1,hmap'⟩
   ·rename_i hm'
    exact .inl ⟨hb1,by simp[Ne.symm hm,Ne.symm hm'],fun _ _ _=>⟨rfl,fun _ h=>h⟩⟩) (fun m m' b1 b2 k C C' h1 h2 h3 h4=>by
  have key:∀ m c kk,getB (setB (setB st.boxes nm' { b with ver:=Zr st.boxes nm' }) nm ⟨b.ver+1,b.e,[],false,true⟩) m=some c→(if m=nm then none else if m=nm' then bm nm else bm m)=some kk→(m=nm'∧bm nm=some kk)∨(m≠nm∧m≠nm'∧bm m=some kk∧getB st.boxes m=some c):=by
   intro m c kk hg hk;by_cases hm:m=nm
   ·simp[hm] at hk
   ·by_cases hm':m=nm'
    ·left
     subst hm';simp[hm] at hk
     exact⟨rfl,hk⟩
    ·right
     simp only[hm,hm',if_false] at hk;rw[Xa (Ne.symm hm),Xa (Ne.symm hm')] at hg;exact⟨hm,hm',hk,hg⟩
  rcases key m b1 _ h1 h3 with ⟨e1,e2⟩ | ⟨e1,e2,e3,e4⟩
  ·rcases key m' b2 _ h2 h4 with ⟨f1,f2⟩ | ⟨f1,f2,f3,f4⟩
   ·rw[e1,f1]
   ·exact absurd (h.inj nm m' b b2 k C C' hb f4 e2 f3).symm f1
  ·rcases key m' b2 _ h2 h4 with ⟨f1,f2⟩ | ⟨f1,f2,f3,f4⟩
   ·exact absurd (h.inj m nm b1 b k C C' e4 hb e3 f2) e1
   ·exact h.inj m m' b1 b2 k C C' e4 f4 e3 f3)
theorem Zxi (h:Sim G B ks w0 S0 st a w) (x:Nat×Option Nat×Nat×Nat):Sim G B ks w0 S0 (Zs6 st x) a w:=by
 unfold Zs6;split
 ·rename_i i nm'
  split
  ·rename_i nm ver n e hi
   split
   ·rename_i b hb
    split
    ·rename_i hc
     obtain⟨hv,hrow,hne,hlt,hlt'⟩:=hc;subst hv;obtain⟨S,bm,h⟩:=h;obtain⟨bm',hs,hval,hren⟩:=Zq6 h hb hrow hne hlt hlt';refine⟨S,_,hs.dfr,by simp[hs.size],fun j p v hp hv'=>?_,hs.boxes,hs.inj,hs.below,hs.base,hs.mono,hs.fresh,hs.slt,hs.glob,hs.ksin⟩;simp only[List.getElem?_set] at hp;by_cases hj:i=j
     ·subst hj
      have hil:=Zm hi;simp only[if_true,hil] at hp;injection hp with hp;subst hp;have hr:=h.slots i _ v hi hv';cases hr with
      | base hr=>cases hr with
       | one hr=>exact .base (.one (hval _ _ _ hr))
     ·simp only[hj,if_false] at hp
      exact hs.slots j p v hp hv'
    ·exact h
   ·exact h
  ·exact h
 ·rename_i i o nm'
  split
  ·rename_i bi hbi0
   split
   ·rename_i cs hcs
    split
    ·rename_i nm ver n e hc0
     split
     ·rename_i b hb
      split
      ·rename_i hc
       obtain⟨hv,hrow,hne,hlt,hlt',hin,hin',hfz,hmapi⟩:=hc;subst hv;obtain⟨S,bm,h⟩:=h;obtain⟨bm',hs,hval,hren⟩:=Zq6 h hb hrow hne hlt hlt';generalize hbx1:setB (setB st.boxes nm' { b with ver:=Zr st.boxes nm' }) nm ⟨b.ver+1,b.e,[],false,true⟩=bx1 at hs hval ⊢;have hbi:getB bx1 i=some bi:=by rw[← hbx1,Xa (Ne.symm hin),Xa (Ne.symm hin')]; exact hbi0
       refine⟨S,bm',?_⟩
       have hrefs:ZaX bm' bx1 bm' (setB bx1 i { bi with els:=[cs.set o (.ms nm' (Zr st.boxes nm') 0 n e)] }):=by
        intro m b0 hb0;by_cases hm:i=m
        ·subst hm
         rw[hbi] at hb0;injection hb0 with hb0;subst hb0;exact⟨_,getB_self,Nat.le_refl _,fun _=>⟨rfl,rfl,rfl⟩⟩
        ·exact⟨b0,by rw[Xa hm]; exact hb0,Nat.le_refl _,fun _=>⟨rfl,rfl,rfl⟩⟩
       refine hs.change hrefs (fun _ _ h=>h) (fun _ _ _=>rfl) (XE.refl _ _ _) (fun _ _ h=>.inl h) hs.slt (fun m b1 hb1=>?_) (fun m m' b1 b2 k C C' h1 h2 h3 h4=>?_)
       ·rw[getB_set] at hb1
        split at hb1
        ·rename_i hm
         subst hm;simp at hb1
         subst hb1;right
         obtain⟨hes,hpu,hB⟩:=hs.boxes i bi hbi;refine⟨fun hm l hl=>by simp at hl; subst hl; rw[List.length_set]; exact hes hm cs (by simp[hcs]),fun hf=>by simp only at hf; rw[hfz] at hf; simp at hf,?_⟩;cases hbm:bm' i with
         | none=>rw[hbm] at hB; simp[hcs] at hB
         | some kc =>
          obtain⟨k,C⟩:=kc;rw[hbm] at hB;obtain⟨arr,Ty,ha1,ha2,ha3⟩:=hB.blk hmapi;refine⟨hB.base,⟨fun _=>⟨arr,Ty,ha1,ha2,fun j c' v hc' hv=>?_⟩,fun hm=>ZcB hm hmapi⟩,fun _=>by have:=hB.room hmapi; simp[hcs] at this; simpa using this,hB.cap,fun q hq=>?_,fun hf=>by simp only at hf; rw[hfz] at hf; simp at hf,hB.one⟩
          ·simp at hc'
           rw[List.getElem?_set] at hc';split at hc'
           ·rename_i hj
            subst hj;have hol:=Zm hc0;simp only[hol,if_true] at hc';injection hc' with hc';subst hc';obtain⟨_,_,hB0⟩:=h.boxes i bi hbi0
            have hbm0:∃ C0,bm i=some (k,C0):=by
             cases hb0:bm i with
             | none=>rw[hb0] at hB0; simp[hcs] at hB0
             | some kc0 =>
              obtain⟨k0,C0⟩:=kc0;rw[hren i hin hin',hb0] at hbm;injection hbm with hbm;injection hbm with e1 e2;exact⟨C0,by rw[e1]⟩
            obtain⟨C0,hbm0⟩:=hbm0;rw[hbm0] at hB0;obtain⟨arr0,Ty0,f1,f2,f3⟩:=hB0.blk hmapi;rw[ha1] at f1;injection f1 with f1;injection f1 with f1 _ _;subst f1;exact(hval n e v (f3 o _ v (by rw[hcs]; simpa using hc0) hv)).mono (fun _ _ h=>h) (fun _ _ _=>rfl) hrefs
           ·exact(ha3 j c' v (by rw[hcs]; simpa using hc') hv).mono (fun _ _ h=>h) (fun _ _ _=>rfl) hrefs
          ·have:=(hB.free q hq).1
           rw[hfz] at this;simp at this
        ·exact .inl ⟨hb1,rfl,fun _ _ _=>⟨rfl,fun _ h=>h⟩⟩
       ·have key:∀ m c,getB (setB bx1 i { bi with els:=[cs.set o (.ms nm' (Zr st.boxes nm') 0 n e)] }) m=some c→∃ c0,getB bx1 m=some c0:=by
         intro m c hm;rw[getB_set] at hm;split at hm
         ·rename_i he; subst he; exact⟨bi,hbi⟩
         ·exact⟨c,hm⟩
        obtain⟨c1,g1⟩:=key m b1 h1;obtain⟨c2,g2⟩:=key m' b2 h2;exact hs.inj m m' c1 c2 k C C' g1 g2 h3 h4
      ·exact h
     ·exact h
    ·exact h
   ·exact h
  ·exact h
 ·rename_i i o
  split
  ·rename_i b hb
   split
   ·rename_i hc
    obtain⟨S,bm,hs⟩:=h;exact⟨_,bm,hs.freeze [o] (fun nm hm=>by rw[List.mem_singleton.1 hm]; exact⟨b,hb,hc.2.2⟩) (by simp[Zb5,hc.2.1])⟩
   ·exact h
  ·exact h
 ·rename_i i
  split
  ·rename_i c hi
   split
   ·rename_i d hd
    split
    ·rename_i hf
     obtain⟨S,bm,hs⟩:=h;have hz:=hs.freeze (nmC c) (ZlB hd) hf;refine⟨_,bm,hz.dfr,by simp[hs.size],fun j p v hp hv'=>?_,hz.boxes,hz.inj,hz.below,hz.base,hz.mono,hz.fresh,hz.slt,hz.glob,hz.ksin⟩;simp only[List.getElem?_set] at hp;by_cases hj:i=j
     ·subst hj
      have hil:=Zm hi;simp only[if_true,hil] at hp;injection hp with hp;subst hp;have hr:=hs.slots i _ v hi hv';cases hr with
      | base hr=>cases hr with
       | one hr=>exact .base (.one (.pure (Zjp hs hr hd fun _ h=>h)))
     ·simp only[hj,if_false] at hp
      exact hz.slots j p v hp hv'
    ·exact h
   ·exact h
  ·exact h
 ·exact h
theorem renAll_ok:∀ (l:List (Nat×Option Nat×Nat×Nat)){st:ASt},Sim G B ks w0 S0 st a w→Sim G B ks w0 S0 (ZoQ st l) a w
 | [],st,h=>h
 | x :: l,st,h=>renAll_ok l (Zxi h x)
theorem ZpV (h:Sim G B ks w0 S0 st a w) (k:Kp):Sim G B ks w0 S0 (Zcl k st) a w:=by
 obtain⟨S,bm,h⟩:=renAll_ok k.nl h;exact mkAll_ok _ ⟨S,bm,Zxh h k.ks k.ns⟩
theorem Zsv {c:Code}{f:ASt→Option (AE×ASt)}{k:Kp}{r:AE×ASt}
  (hf:∀ st a w r,f st=some r→Sim G B ks w0 S0 st a w→c.wp P (Zq3 G B ks w0 S0 r) a w):∀ (n:Nat) (st:ASt) (a:Act) (w:World),ZlJ k f n st=some r→Sim G B ks w0 S0 st a w→Code.rounds P c (Zq3 G B ks w0 S0 r) n a w
 | 0,st,a,w,hi,h=>by simp[ZlJ] at hi
 | n+1,st,a,w,hi,h=>by
  rw[rounds_succ];simp only[ZlJ] at hi;cases hr:f (Zcl k st) with
  | none=>simp[hr] at hi
  | some r1 =>
   have h1:=hf _ a w r1 hr (ZpV h _);obtain⟨ae,st1⟩:=r1;refine Code.wp_mono (fun e a' w' hp=>?_) h1;obtain⟨he,hs⟩:=hp;cases ae with
   | normal =>
    simp only[AE.to] at he;subst he;rw[hr] at hi;exact Zsv hf n st1 a' w' hi hs
   | exit id =>
    rw[hr] at hi;simp at hi
    subst hi;simp only[AE.to] at he;subst he;exact⟨rfl,hs⟩
   | ret =>
    rw[hr] at hi;simp at hi
    subst hi;simp only[AE.to] at he;subst he;exact⟨rfl,hs⟩
end
section
variable {tt:TT}{T:Tab}{G:Glob}{ops:List Oper}{env env':Env}{bx bx':Boxes}
theorem ZJ {x:Operand}(h:∀ t,x = .tmp t→env t=env' t):rd G env x=rd G env' x:=by
 cases x with
 | tmp t=>simp[rd,h t rfl]
 | _=>rfl
theorem rds_congr:∀ {l:List Operand},(∀ x∈l,∀ t,x = .tmp t→env t=env' t)→rds G env l=rds G env' l
 | [],_=>rfl
 | x :: l,h=>by
  simp only[rds];rw[ZJ (h x (by simp)),rds_congr fun y hy=>h y (by simp[hy])]
theorem Znf {x:Option Operand}(h:∀ y,x=some y→∀ t,y = .tmp t→env t=env' t):rdO G env x=rdO G env' x:=by
 cases x with
 | none=>rfl
 | some y=>simp only[rdO]; rw[ZJ (h y rfl)]
theorem rdParts_congr:∀ {l:List (Nat×Operand)},(∀ x∈l,∀ t,x.2 = .tmp t→env t=env' t)→Zgc G env l=Zgc G env' l
 | [],_=>rfl
 | (i,x) :: l,h=>by
  simp only[Zgc];rw[ZJ (h (i,x) (by simp)),rdParts_congr fun y hy=>h y (by simp[hy])]
theorem Ztj {l:List Operand}{t:Nat}(h:Operand.tmp t∈l):t∈Zue l:=List.mem_filterMap.2 ⟨_,h,rfl⟩
theorem Zq7 {op:Op}(h:∀ x∈op.operands.toList,∀ t,x = .tmp t→env t=env' t):ZC tt G env op=ZC tt G env' op:=by
 cases op
 case move x=>simp only[Op.operands] at h; simp only[ZC]; rw[ZJ (h x (by simp))]
 case assign x=>simp only[Op.operands] at h; simp only[ZC]; rw[ZJ (h x (by simp))]
 case nilCheck x=>simp only[Op.operands] at h; simp only[ZC]; rw[ZJ (h x (by simp))]
 case pick c x y =>
  simp only[Op.operands] at h;simp only[ZC];rw[ZJ (h c (by simp))];split
  ·rename_i t _
   cases t
   ·exact ZJ (h y (by simp))
   ·exact ZJ (h x (by simp))
  ·rfl
 case build t parts =>
  simp only[ZC];rw[rdParts_congr (l:=parts.toList) fun x hx t ht=>h x.2 (by simp[Op.operands]; exact⟨x.1,by simpa using hx⟩) t ht]
 case binOp op t x y t' =>
  simp only[Op.operands] at h;simp only[ZC];rw[ZJ (h x (by simp)),ZJ (h y (by simp))]
 case unOp op t x =>
  simp only[Op.operands] at h;cases op <;> simp only[ZC] <;> rw[ZJ (h x (by simp))]
 case convert s d x=>simp only[Op.operands] at h; simp only[ZC]; rw[ZJ (h x (by simp))]
 case fieldAddr s x f=>simp only[Op.operands] at h; simp only[ZC]; rw[ZJ (h x (by simp))]
 case field s x f=>simp only[Op.operands] at h; simp only[ZC]; rw[ZJ (h x (by simp))]
 case indexAddr t x y =>
  simp only[Op.operands] at h;simp only[ZC];rw[ZJ (h x (by simp)),ZJ (h y (by simp))]
 case index t x y =>
  simp only[Op.operands] at h;simp only[ZC];rw[ZJ (h x (by simp)),ZJ (h y (by simp))]
 case slice t x lo hi mx =>
  cases mx with
  | some m=>cases hi with
   | none=>rfl
   | some y0 =>
    have hx:=ZJ (G:=G) (h x (by simp[Op.operands]));have hl:=Znf (G:=G) (x:=lo) (env:=env) (env' := env') (fun y hy=>h y (by subst hy; simp[Op.operands]));have hh:=ZJ (G:=G) (h y0 (by simp[Op.operands]));have hm:=ZJ (G:=G) (h m (by simp[Op.operands]));simp only[ZC];rw[hx,hl,hh,hm]
  | none =>
   have hx:=ZJ (G:=G) (h x (by simp[Op.operands]));have hl:=Znf (G:=G) (x:=lo) (env:=env) (env' := env') (fun y hy=>h y (by subst hy; simp[Op.operands]));have hh:=Znf (G:=G) (x:=hi) (env:=env) (env' := env') (fun y hy=>h y (by subst hy; simp[Op.operands]));simp only[ZC];rw[hx,hl,hh]
 case sliceToArrayPointer t x=>simp only[Op.operands] at h; simp only[ZC]; rw[ZJ (h x (by simp))]
 case extract x n=>simp only[Op.operands] at h; simp only[ZC]; rw[ZJ (h x (by simp))]
 case call c =>
  unfold ZC;split <;> try rfl
  all_goals first
   | (rename_i heq; cases heq; done)
   | skip
  ·rename_i x t heq
   injection heq with heq;subst heq;rw[ZJ (h x (by simp[Op.operands,Call.operands]))]
  ·rename_i args ts heq
   injection heq with heq;subst heq;rw[rds_congr fun x hx=>h x (by simp[Op.operands,Call.operands]; simpa using hx)]
  ·rename_i args ts heq
   injection heq with heq;subst heq;rw[rds_congr fun x hx=>h x (by simp[Op.operands,Call.operands]; simpa using hx)]
 case makeFunc fn first caps =>
  simp only[Op.operands] at h;cases fn with
  | func f =>
   simp only[ZC];rw[rds_congr fun x hx=>h x (by simp; right; simpa using hx)]
  | _=>rfl
 all_goals rfl
theorem ZhW {c:Cell}(h:∀ nm∈nmC c,getB bx nm=getB bx' nm):Z8 bx c=Z8 bx' c:=by
 cases c with
 | ms nm ver i n e=>simp only[Z8]; rw[h nm (by simp[nmC])]
 | fv nm ver i n e=>simp only[Z8]; rw[h nm (by simp[nmC])]
 | _=>rfl
theorem viewL_local:∀ {cs:List Cell},(∀ nm∈nmL cs,getB bx nm=getB bx' nm)→XD bx cs=XD bx' cs
 | [],_=>rfl
 | c :: cs,h=>by
  simp only[XD];rw[ZhW fun nm hn=>h nm (by simp only[nmL,List.flatMap_cons,List.mem_append]; exact .inl hn),viewL_local fun nm hn=>h nm (by simp only[nmL,List.flatMap_cons,List.mem_append]; exact .inr hn)]
theorem Zbb {nm:Nat}(h:getB bx nm=getB bx' nm):Zr bx nm=Zr bx' nm:=by simp only[Zr]; rw[h]
theorem frzL_local:∀ {l:List Nat},(∀ nm∈l,getB bx nm=getB bx' nm)→Xw bx l=Xw bx' l
 | [],_=>rfl
 | nm :: l,h=>by
  simp only[Xw];rw[h nm (by simp),frzL_local fun m hm=>h m (by simp[hm])]
theorem Ztk {p:PV}(h1:∀ nm∈nmK p,getB bx nm=getB bx' nm):Zj9 bx p=Zj9 bx' p:=by
 cases p with
 | one c=>simp only[Zj9]; rw[ZhW h1]
 | agg cs=>simp only[Zj9]; rw[viewL_local h1]
 | ptr nm ver i off e =>
  have h3:=h1 nm (by simp[nmK]);cases i with
  | succ i=>rfl
  | zero=>cases off with
   | succ off=>rfl
   | zero=>simp only[Zj9]; rw[h3]
 | _=>rfl
theorem argKs_local:∀ {ps:List PV},(∀ nm∈ps.flatMap nmK,getB bx nm=getB bx' nm)→ZkE bx ps=ZkE bx' ps
 | [],_=>rfl
 | p :: ps,h1=>by
  simp only[ZkE];rw[Ztk (fun nm hn=>h1 nm (by simp only[List.flatMap_cons,List.mem_append]; exact .inl hn)),argKs_local (fun nm hn=>h1 nm (by simp only[List.flatMap_cons,List.mem_append]; exact .inr hn))]
theorem Zr3 {c:Cell}(h:∀ nm∈nmC c,getB bx nm=getB bx' nm):Zh7 bx c=Zh7 bx' c:=by
 unfold Zh7;rw[ZhW h]
theorem ZlM {e:Nat}{c:Cell}(h1:∀ nm∈ZeW e c,getB bx nm=getB bx' nm) (h2:∀ nm∈hdC e c,getB bx nm=getB bx' nm):Zet bx e c=Zet bx' e c:=by
 by_cases he:e=0
 ·subst he
  simp only[ZeW,if_true] at h1;have:=ZhW h1;cases c <;> simp only[Zet,if_true] <;> exact this
 ·simp only[hdC,if_neg he] at h2
  cases c with
  | ms nm ver i n e'=>simp only[Zet,if_neg he]; rw[h2 nm (by simp[nmC])]
  | _=>simp only[Zet,if_neg he]
theorem handL_local:∀ {es:List Nat}{cs:List Cell},(∀ nm∈lentL es cs,getB bx nm=getB bx' nm)→(∀ nm∈hdL es cs,getB bx nm=getB bx' nm)→Zba bx es cs=Zba bx' es cs
 | es,[],_,_=>by cases es <;> rfl
 | [],c :: cs,h1,h2=>by
  simp only[lentL,hdL,List.mem_append] at h1 h2;simp only[Zba];rw[ZlM (fun nm hn=>h1 nm (.inl (by simpa[ZeW] using hn))) (fun nm hn=>by simp[hdC] at hn),handL_local (fun nm hn=>h1 nm (.inr hn)) h2]
 | e :: es,c :: cs,h1,h2=>by
  simp only[lentL,hdL,List.mem_append] at h1 h2;simp only[Zba];rw[ZlM (fun nm hn=>h1 nm (.inl hn)) (fun nm hn=>h2 nm (.inl hn)),handL_local (fun nm hn=>h1 nm (.inr hn)) (fun nm hn=>h2 nm (.inr hn))]
theorem Zr4 {h:List Nat}{p:PV}(h1:∀ nm∈ioP h p,getB bx nm=getB bx' nm):ZfB bx h p=ZfB bx' h p∧hdP bx h p=hdP bx' h p:=by
 cases p with
 | ptr nm ver i off e =>
  have:Zcz bx nm=Zcz bx' nm:=by unfold Zcz; rw[h1 nm (by simp[ioP])]
  simp only[ZfB,hdP,this,and_self]
 | _=>exact⟨rfl,rfl⟩
theorem lentPs_local:∀ {hh:List (List Nat)}{ps:List PV},(∀ nm∈ioPs hh ps,getB bx nm=getB bx' nm)→XR bx hh ps=XR bx' hh ps∧Zdc bx hh ps=Zdc bx' hh ps
 | hh,[],_=>by cases hh <;> exact⟨rfl,rfl⟩
 | hh,p :: ps,h1=>by
  simp only[ioPs,List.mem_append] at h1;obtain⟨e1,e2⟩:=Zr4 (h:=hh.headD []) (p:=p) fun nm hn=>h1 nm (.inl hn)
  obtain⟨e3,e4⟩:=lentPs_local (hh:=hh.tail) (ps:=ps) fun nm hn=>h1 nm (.inr hn)
  simp only[XR,Zdc,e1,e2,e3,e4,and_self]
theorem Ztl {h:List Nat}{p:PV}(h1:∀ nm∈ZfB bx h p,getB bx nm=getB bx' nm) (h2:∀ nm∈ioP h p,getB bx nm=getB bx' nm) (h3:∀ nm∈hdP bx h p,getB bx nm=getB bx' nm):ZfA bx h p=ZfA bx' h p:=by
 cases p with
 | one c =>
  simp only[ZfA];cases hle:Zj1 h with
  | false =>
   simp only[ZfB,hdP,hle,Bool.false_eq_true,if_false] at h1 h3;simp only[Bool.false_eq_true,if_false];rw[ZlM h1 h3]
  | true =>
   simp only[ioP,hle,if_true] at h2;simp only[if_true];generalize h.headD 0-1000000=ee;cases c with
   | ms nm ver i n e'=>simp only[ZqF]; rw[h2 nm (by simp[nmC])]
   | _=>rfl
 | agg cs=>simp only[ZfA]; rw[handL_local h1 h3]
 | ptr nm ver i off e =>
  have h4:=h2 nm (by simp[ioP]);cases i with
  | succ i=>rfl
  | zero=>cases off with
   | succ off=>rfl
   | zero =>
    simp only[ZfA];rw[← h4];cases hb:getB bx nm with
    | none=>rfl
    | some b =>
     simp only;cases hels:b.els with
     | nil=>rfl
     | cons cs l =>
      cases l with
      | cons _ _=>rfl
      | nil =>
       have hic:Zcz bx nm=cs:=by simp[Zcz,hb,hels]
       simp only[ZfB,hdP,hic] at h1 h3;simp only;rw[handL_local h1 h3]
 | clo f ps=>simp only[ZfA]; rw[argKs_local h1]
 | _=>rfl
theorem argPs_local:∀ {hh:List (List Nat)}{ps:List PV},(∀ nm∈XR bx hh ps,getB bx nm=getB bx' nm)→(∀ nm∈ioPs hh ps,getB bx nm=getB bx' nm)→(∀ nm∈Zdc bx hh ps,getB bx nm=getB bx' nm)→ZjS bx hh ps=ZjS bx' hh ps
 | hh,[],_,_,_=>by cases hh <;> rfl
 | hh,p :: ps,h1,h2,h3=>by
  simp only[XR,Zdc,ioPs,List.mem_append] at h1 h2 h3;simp only[ZjS]
  rw[Ztl (fun nm hn=>h1 nm (.inl hn)) (fun nm hn=>h2 nm (.inl hn)) (fun nm hn=>h3 nm (.inl hn)),
   argPs_local (fun nm hn=>h1 nm (.inr hn)) (fun nm hn=>h2 nm (.inr hn)) (fun nm hn=>h3 nm (.inr hn))]
theorem killL_local:∀ {l:List Nat},(∀ nm∈l,getB bx nm=getB bx' nm)→ZjT bx l=ZjT bx' l
 | [],_=>rfl
 | nm :: l,h=>by
  simp only[ZjT];rw[h nm (by simp),Zbb (h nm (by simp)),killL_local fun m hm=>h m (by simp[hm])]
theorem Zgg {f:Nat→Nat}:∀ {cs:List Cell}{k:Nat},(∀ nm∈(YA bx f k cs).2.map (·.1),getB bx nm=getB bx' nm)→YA bx f k cs=YA bx' f k cs
 | [],k,_=>rfl
 | c :: cs,k,h=>by
  cases c with
  | own e els =>
   simp only[YA] at h ⊢;have h1:=Zbb (h (f k) (by simp));rw[h1,Zgg fun nm hn=>h nm (List.mem_cons_of_mem _ hn)]
  | _=>simp only[YA] at h ⊢; rw[Zgg h]
theorem ioOut_local:∀ {l:List Nat}{outs:List (List Cell)}{bo br:List (Nat×Box)},ZfC bx l outs=some (bo,br)→(∀ nm∈l,getB bx nm=getB bx' nm)→(∀ nm∈br.map (·.1),getB bx nm=getB bx' nm)→ZfC bx' l outs=some (bo,br)
 | [],[],bo,br,hl,_,_=>by simpa[ZfC] using hl
 | [],_ :: _,bo,br,hl,_,_=>by simp[ZfC] at hl
 | _ :: _,[],bo,br,hl,_,_=>by simp[ZfC] at hl
 | nm :: l,cs :: r,bo,br,hl,h,h2=>by
  simp only[ZfC] at hl ⊢;rw[← h nm (by simp)];split at hl
  ·rename_i b m n hb hm
   cases hrow:b.row with
   | true =>
    rw[hrow] at hl;simp only[if_true] at hl;split at hl <;> simp at hl
    rename_i hc;obtain⟨rfl,rfl⟩:=hl;rw[hb,ioOut_local hm (fun m hm=>h m (by simp[hm])) h2];simp only[hrow,if_true];rw[if_pos hc]
   | false =>
   rw[hrow] at hl;simp only[Bool.false_eq_true,if_false] at hl;split at hl <;> simp at hl
   rename_i hc;obtain⟨rfl,rfl⟩:=hl;rw[hb,ioOut_local hm (fun m hm=>h m (by simp[hm])) (fun nm hn=>h2 nm (by rw[List.map_append]; exact List.mem_append_right _ hn))];simp only[hrow,Bool.false_eq_true,if_false];rw[if_pos hc,← Zgg (bx:=bx) fun nm hn=>h2 nm (by rw[List.map_append]; exact List.mem_append_left _ hn)]
  ·simp at hl
theorem Zof {d k k':Nat}{p q:PV}{bs:List (Nat×Box)}(hl:Zhg bx d k p=some (q,bs,k')) (h:∀ nm∈bs.map (·.1),getB bx nm=getB bx' nm):Zhg bx' d k p=some (q,bs,k'):=by
 cases p with
 | one c =>
  simp only[Zhg] at hl ⊢;split at hl <;> simp at hl
  rename_i c' bs' heq;obtain⟨rfl,rfl,rfl⟩:=hl;have:=Zgg (bx:=bx) (bx' := bx') (f:=fun k=>d+100000 * k) (cs:=[c]) (k:=k) (by rw[heq]; exact h);rw[← this,heq]
 | agg cs =>
  simp only[Zhg] at hl ⊢;simp at hl
  obtain⟨rfl,rfl,rfl⟩:=hl;rw[← Zgg h]
 | io cs =>
  simp only[Zhg] at hl ⊢;simp at hl
  obtain⟨rfl,rfl,rfl⟩:=hl;rw[← Zbb (h (d+100000 * k) (by simp)),← Zgg (bx:=bx) (f:=ioN (d+100000 * k)) (cs:=cs) (k:=0) fun nm hn=>h nm (by rw[List.map_cons]; exact List.mem_cons_of_mem _ hn)]
 | _=>simp[Zhg] at hl
theorem Zng {d:Nat}:∀ {ps qs:List PV}{k:Nat}{bs:List (Nat×Box)},ZhR bx d k ps=some (qs,bs)→(∀ nm∈bs.map (·.1),getB bx nm=getB bx' nm)→ZhR bx' d k ps=some (qs,bs)
 | [],qs,k,bs,hl,h=>by simpa[ZhR] using hl
 | p :: ps,qs,k,bs,hl,h=>by
  simp only[ZhR] at hl ⊢;split at hl
  ·rename_i q b1 k' h1
   split at hl <;> simp at hl
   rename_i qs2 b2 h2;obtain⟨rfl,rfl⟩:=hl;rw[Zof h1 fun nm hn=>h nm (by rw[List.map_append]; exact List.mem_append_left _ hn)];simp only;rw[Zng h2 fun nm hn=>h nm (by rw[List.map_append]; exact List.mem_append_right _ hn)]
  ·simp at hl
theorem Zr5 {d:Nat}{r q:PV}{bs:List (Nat×Box)}(hl:ZkF bx d r=some (q,bs)) (h:∀ nm∈bs.map (·.1),getB bx nm=getB bx' nm):ZkF bx' d r=some (q,bs):=by
 unfold ZkF at hl ⊢;split at hl
 ·split at hl <;> simp at hl
  rename_i qs b1 h1;obtain⟨rfl,rfl⟩:=hl;rw[Zng h1 h]
 ·rename_i hnt
  split at hl <;> simp at hl
  rename_i q1 b1 k1 h1;obtain⟨rfl,rfl⟩:=hl;rw[Zof h1 h]
theorem viewEls_local:∀ {l:List (Nat×PV)},(∀ nm∈Ze6 l,getB bx nm=getB bx' nm)→Zgd bx l=Zgd bx' l
 | [],_=>rfl
 | (i,p) :: l,h=>by
  simp only[Zgd];rw[viewEls_local fun nm hn=>h nm (by simp only[Ze6,List.flatMap_cons,List.mem_append]; exact .inr hn)];cases hc:p.cells with
  | none=>rfl
  | some cs =>
   have hnm:nmP p=nmL cs:=by
    cases p <;> simp[PV.cells] at hc
    ·subst hc; simp[nmP,nmL]
    ·subst hc; rfl
   have hv:=viewL_local (bx:=bx) (bx' := bx') (cs:=cs) fun nm hn=>h nm (by simp only[Ze6,List.flatMap_cons,List.mem_append]; left; rw[hnm]; exact hn)
   cases Zgd bx' l with
   | none=>rfl
   | some r=>simp only; rw[hv]
theorem Znh {i:TK}{q:PV}(h:∀ nm∈nmP q,getB bx nm=getB bx' nm):ZgS bx i q=ZgS bx' i q:=by
 cases q with
 | one c =>
  have:=ZhW (c:=c) h;unfold ZgS;split <;> first | rfl | skip
  rename_i heq;injection heq with heq;subst heq;simp only[Zh7];rw[this]
 | _=>rfl
theorem Zpv {j:TI}{d:Nat}{x:PV}{els':List (List Cell)}{u:Upd}(hu:Zik j d x els' bx=some u) (h:∀ nm∈u.reads,getB bx nm=getB bx' nm):Zik j d x els' bx'=some u:=by
 unfold Zik at hu ⊢;split at hu
 ·split at hu <;> simp at hu
  rename_i hc;subst hu;rw[if_pos hc,Zbb (h d (by simp))]
 ·rename_i nm ver n e
  cases hb:getB bx nm with
  | none=>rw[hb] at hu; simp at hu
  | some b =>
   rw[hb] at hu;simp only at hu;split at hu <;> simp at hu
   rename_i hc;subst hu;rw[← h nm (by simp),hb];simp only;rw[if_pos hc]
 ·simp at hu
theorem Zni {s:Nat}{d:Option Nat}{x:Cell}{els:List (List Cell)}{u:Upd}(hu:ZhS s d x els bx=some u) (h:∀ nm∈u.reads,getB bx nm=getB bx' nm):ZhS s d x els bx'=some u:=by
 unfold ZhS at hu ⊢;split at hu
 ·rename_i nm ver i n e
  cases hb:getB bx nm with
  | none=>rw[hb] at hu; simp at hu
  | some b =>
   rw[hb] at hu;simp only at hu;split at hu
   case isFalse=>simp at hu
   rename_i hc;have hr:nm∈u.reads:=by injection hu with hu; subst hu; simp
   rw[← h nm hr,hb];simp only;rw[if_pos hc];exact hu
 ·rename_i nm ver i n e
  cases hb:getB bx nm with
  | none=>rw[hb] at hu; simp at hu
  | some b =>
   rw[hb] at hu
   have hr:nm∈u.reads:=by
    simp only at hu;split at hu
    ·split at hu
     ·injection hu with hu; subst hu; simp
     ·simp at hu
    ·simp at hu
   rw[← h nm hr,hb];exact hu
 ·simp at hu
theorem Zq8 {d:Option Nat}{f:FuncId}{ps:List PV}{u:Upd}(hu:Zj2 T d f ps bx=some u) (h:∀ nm∈u.reads,getB bx nm=getB bx' nm):Zj2 T d f ps bx'=some u:=by
 unfold Zj2 at hu ⊢;generalize T.own (d.getD 90000)=hh at hu ⊢;split at hu
 ·rename_i F qs hF hqs
  split at hu
  ·rename_i r outs hr
   simp only at hu;split at hu
   ·rename_i bo br p bn hbo hland
    split at hu <;> simp only[Option.some.injEq,reduceCtorEq] at hu
    rename_i hc;subst hu;simp only[List.mem_append,List.map_append] at h;have h1:∀ nm∈XR bx hh ps,getB bx nm=getB bx' nm:=fun nm hn=>h nm (.inl (.inl (.inl hn)))
    have h2:∀ nm∈ioPs hh ps,getB bx nm=getB bx' nm:=fun nm hn=>h nm (.inl (.inl (.inr hn)))
    have h4:∀ nm∈Zdc bx hh ps,getB bx nm=getB bx' nm:=fun nm hn=>h nm (.inl (.inr hn))
    have h5:∀ nm∈br.map (·.1),getB bx nm=getB bx' nm:=fun nm hn=>h nm (.inr (.inl hn))
    have h3:∀ nm∈bn.map (·.1),getB bx nm=getB bx' nm:=fun nm hn=>h nm (.inr (.inr hn))
    obtain⟨e1,e2⟩:=lentPs_local (hh:=hh) (ps:=ps) h2;rw[hF,← argPs_local h1 h2 h4,hqs];simp only;rw[hr];simp only;rw[ioOut_local hbo h2 h5,Zr5 hland h3];simp only;rw[← e1,← e2,if_pos hc,frzL_local h1,killL_local (bx:=bx) (bx' := bx') fun nm hn=>h4 nm (List.mem_filter.1 hn).1]
   ·simp at hu
  ·simp at hu
 ·simp at hu
theorem Zuw {o:Oper}{u:Upd}(hu:eff tt T G o env bx=some u) (h:∀ x∈o.op.operands.toList,∀ t,x = .tmp t→env t=env' t) (hb:∀ nm∈u.reads,getB bx nm=getB bx' nm):eff tt T G o env' bx'=some u:=by
 have hp:=Zq7 (tt:=tt) (G:=G) h;unfold eff at hu ⊢;cases hop:o.op <;> rw[hop] at h hp hu <;> simp only[Op.operands] at h <;> simp only at hu ⊢
 case alloc t =>
  split at hu
  ·split at hu <;> simp at hu
   rename_i hc;subst hu;rename_i d _ hd _;rw[if_pos hc,Zbb (hb _ (by simp))]
  ·simp at hu
 case box t x =>
  rw[← ZJ (h x (by simp))];split at hu
  ·split at hu
   case h_2=>simp at hu
   split at hu <;> simp at hu
   rename_i hc;subst hu;rw[if_pos hc,Zbb (hb _ (by simp))]
  ·simp at hu
 case load t x =>
  rw[← ZJ (h x (by simp))];split at hu
  ·exact hu
  ·rename_i i nm ver k off e hi hx
   cases hbb:getB bx nm with
   | none=>rw[hbb] at hu; simp at hu
   | some b =>
    rw[hbb] at hu
    have hr:nm∈u.reads:=by
     simp only at hu;split at hu
     ·split at hu <;> simp at hu
      subst hu;simp
     split at hu
     ·split at hu
      ·split at hu <;> simp at hu
       subst hu;simp
      ·simp at hu
     ·simp at hu
    rw[← hb nm hr,hbb];exact hu
  ·simp at hu
 case store t x y =>
  rw[← ZJ (h x (by simp)),← ZJ (h y (by simp))];split at hu
  ·rename_i i nm ver k off e p hi hx hy
   split at hu
   ·rename_i b ds hbb hds
    split at hu
    ·rename_i hc
     split at hu
     ·rename_i l hl
      split at hu
      ·rename_i hlen
       split at hu
       ·rename_i hrow
        split at hu
        ·rename_i us hus
         split at hu <;> simp only[Option.some.injEq,reduceCtorEq] at hu
         rename_i hnn;subst hu;simp only at hb;have hb2:∀ m∈nmL ds,getB bx m=getB bx' m:=fun m hm=>hb m (by simp[hm])
         rw[← hb nm (by simp),hbb,hds];simp only;rw[if_pos hc,hl];simp only;rw[if_pos hlen,if_pos hrow,← viewL_local hb2,hus];simp only;rw[if_neg hnn,frzL_local hb2]
        ·simp at hu
       ·rename_i hrow
        simp at hu
        subst hu;rw[← hb nm (by simp),hbb,hds];simp only;rw[if_pos hc,hl];simp only;rw[if_pos hlen,if_neg hrow]
      ·simp at hu
     ·simp at hu
    ·simp at hu
   ·simp at hu
  ·simp at hu
 case buildSlice t len parts =>
  rw[← rdParts_congr (l:=parts.toList) (env:=env) (env' := env') fun x hx t ht=>h x.2 (by simp; exact⟨x.1,by simpa using hx⟩) t ht];split at hu
  ·rename_i i ps d hi hps hd
   split at hu
   ·rename_i e hk
    split at hu
    ·rename_i j els hj hels
     split at hu <;> simp only[Option.some.injEq,reduceCtorEq] at hu
     rename_i hc;subst hu;simp only at hb;have hb2:∀ m∈Ze6 ps,getB bx m=getB bx' m:=fun m hm=>hb m (by simp[hm])
     rw[← viewEls_local hb2,hels,hj];simp only;rw[if_pos hc,frzL_local hb2,Zbb (hb d (by simp))]
    ·simp at hu
   ·simp at hu
  ·simp at hu
 case makeSlice t l c =>
  rw[← ZJ (h l (by simp)),← ZJ (h c (by simp))];split at hu
  ·split at hu
   ·split at hu
    ·split at hu <;> simp at hu
     rename_i hc;subst hu;rw[if_pos hc,Zbb (hb _ (by simp))]
    ·simp at hu
   ·simp at hu
  ·simp at hu
 case call c =>
  split at hu
  all_goals first
   | (rename_i heq; cases heq; done)
   | skip
  ·rename_i x y t t' heq
   injection heq with heq;subst heq;rw[← ZJ (h x (by simp[Call.operands])),← ZJ (h y (by simp[Call.operands]))];split at hu
   ·rename_i i i' p q d hi hi' hp' hq hd
    split at hu
    ·rename_i e els' hk htl
     split at hu
     ·rename_i j hj
      split at hu
      ·rename_i hc
       split at hu <;> simp only[Option.some.injEq,reduceCtorEq] at hu
       rename_i u0 hu0;subst hu;simp only at hb;rw[← Znh (bx:=bx) (bx' := bx') fun nm hn=>hb nm (by simp[hn]),htl,hk];simp only;rw[hj];simp only;rw[if_pos hc,Zpv hu0 fun nm hn=>hb nm (by simp[hn])]
      ·simp at hu
     ·simp at hu
    ·simp at hu
   ·simp at hu
  ·rename_i x y t t' heq
   injection heq with heq;subst heq;rw[← ZJ (h x (by simp[Call.operands])),← ZJ (h y (by simp[Call.operands]))];split at hu
   ·rename_i i i' c0 q hi hi' hp' hq
    split at hu
    ·rename_i e els' hk htl
     split at hu
     ·rename_i s hs
      split at hu <;> simp only[Option.some.injEq,reduceCtorEq] at hu
      rename_i u0 hu0;subst hu;simp only at hb;rw[← Znh (bx:=bx) (bx' := bx') fun nm hn=>hb nm (by simp[hn]),htl,hk];simp only;rw[hs];simp only;rw[Zni hu0 fun nm hn=>hb nm (by simp[hn])]
     ·simp at hu
    ·simp at hu
   ·simp at hu
  ·rename_i x t heq
   injection heq with heq;subst heq;rw[← ZJ (h x (by simp[Call.operands]))];split at hu
   ·rename_i i nm ver i0 n e0 hi hp'
    split at hu
    ·rename_i e hk
     split at hu
     ·rename_i j hj
      split at hu
      ·rename_i hc
       rw[if_pos hc,Zni hu fun nm hn=>hb nm hn]
      ·simp at hu
     ·simp at hu
    ·simp at hu
   ·simp at hu
  ·rename_i g args ts heq
   injection heq with heq;subst heq
   have hg:Ze5 env g=Ze5 env' g:=by
    cases g with
    | tmp t=>simp only[Ze5]; rw[h (.tmp t) (by simp[Call.operands]) t rfl]
    | _=>rfl
   rw[← hg,← rds_congr (env:=env) (env' := env') fun x hx=>h x (by simp[Call.operands]; right; simpa using hx)];split at hu
   ·exact Zq8 hu hb
   ·simp at hu
  ·rename_i x t heq
   injection heq with heq;subst heq;rw[← ZJ (h x (by simp[Call.operands]))];split at hu
   ·rename_i nm ver hx
    cases hbb:getB bx nm with
    | none=>rw[hbb] at hu; simp at hu
    | some b =>
     rw[hbb] at hu
     have hr:nm∈u.reads:=by
      try simp only at hu
      split at hu
      ·split at hu
       ·split at hu <;> simp only[Option.some.injEq,reduceCtorEq] at hu
        subst hu;simp
       ·simp at hu
      ·simp at hu
     rw[← hb nm hr,hbb];exact hu
   ·rename_i hno
    rw[← hp];exact hu
  ·rw[← hp]; exact hu
 case makeMap t r =>
  cases r with
  | some x=>rw[← hp]; exact hu
  | none =>
   simp only at hu ⊢;split at hu
   ·split at hu
    ·split at hu
     ·split at hu <;> simp only[Option.some.injEq,reduceCtorEq] at hu
      rename_i hc;subst hu;rw[if_pos hc,Zbb (hb _ (by simp))]
     ·simp at hu
    ·simp at hu
   ·simp at hu
 case lookup t x k ok =>
  rw[← ZJ (h x (by simp)),← ZJ (h k (by simp))];split at hu
  ·rename_i i nm ver pk hi hx hk
   cases hbb:getB bx nm with
   | none=>rw[hbb] at hu; simp at hu
   | some b =>
    rw[hbb] at hu
    have hr:nm∈u.reads:=by
     try simp only at hu
     split at hu
     ·split at hu
      ·split at hu
       case isFalse=>simp at hu
       split at hu <;> simp only[Option.some.injEq,reduceCtorEq] at hu
       subst hu;simp
      ·simp at hu
     ·simp at hu
    rw[← hb nm hr,hbb];exact hu
  ·simp at hu
 case mapUpdate t x k v =>
  rw[← ZJ (h x (by simp)),← ZJ (h k (by simp)),← ZJ (h v (by simp))];split at hu
  ·rename_i i nm ver pk pv hi hx hk hv
   split at hu
   ·rename_i kt et b kc vc hik hbb hkc hvc
    split at hu
    ·rename_i ki ei hd es us hki hei hels hus
     split at hu <;> simp only[Option.some.injEq,reduceCtorEq] at hu
     rename_i hc;subst hu;simp only at hb;have hb2:∀ m∈nmL vc,getB bx m=getB bx' m:=fun m hm=>hb m (by simp[hm])
     rw[← hb nm (by simp),hbb,hkc,hvc,hik];simp only;rw[hki,hei,hels,← viewL_local hb2,hus];simp only;rw[if_pos hc,frzL_local hb2]
    ·simp at hu
   ·simp at hu
  ·simp at hu
 case convert src dst x =>
  rw[← ZJ (h x (by simp)),← hp];split at hu
  ·rename_i i j c hi hj hx
   split at hu
   ·rename_i e hk hk2
    cases hels:Zh7 bx c with
    | none=>rw[hels] at hu; simp at hu
    | some els =>
     rw[hels] at hu
     have hr:∀ nm∈nmC c,nm∈u.reads:=by
      split at hu
      ·split at hu
       case isFalse=>simp at hu
       split at hu <;> simp only[Option.some.injEq,reduceCtorEq] at hu
       subst hu;simp
      ·simp at hu
     skip
     rw[← Zr3 (bx:=bx) (bx' := bx') fun nm hn=>hb nm (hr nm hn),hels];exact hu
   ·rename_i e hk hk2
    skip
    exact hu
   ·exact hu
  ·simp at hu
 all_goals (rw[← hp]; exact hu)
end
end Go.Av
