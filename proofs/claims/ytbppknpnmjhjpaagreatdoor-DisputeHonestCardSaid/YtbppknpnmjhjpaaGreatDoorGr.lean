import Derived.Test.YtbppknpnmjhjpaaGreatDoorLfK
import Derived.Test.YtbppknpnmjhjpaaGreatDoorShelf
import Derived.Test.YtbppknpnmjhjpaaGreatDoorAvP3
namespace Go.Proofs.YtbppknpnmjhjpaaGreatDoor
open Go.RowKit
open Go.Av
open Go.Lc
set_option maxRecDepth 100000
set_option linter.unusedSimpArgs false
set_option linter.unusedVariables false
theorem info5:∃ i z,Tryz.prog.info? 5=some i∧i.zero=some z∧i.size=1∧i.bytes=1∧z.cells.size=1:=by
  have h:(match Tryz.prog.info? 5 with | some i=>(match i.zero with | some z=>i.size == 1 && i.bytes == 1 && z.cells.size == 1 | none=>false) | none=>false)=true:=by kernel_rfl
  split at h
  · rename_i i hi
    split at h
    · rename_i z hz
      simp only[Bool.and_eq_true,beq_iff_eq] at h;exact⟨i,z,hi,hz,h.1.1,h.1.2,h.2⟩
    · cases h
  · cases h
theorem v70:ZR Tryz.prog G 70 G70:=by
  refine⟨⟨_,Tryz.func70,by kernel_rfl,by kernel_rfl⟩,?_⟩;intro S w ks hs ps vs r outs hg hlt ha hk hF;unfold G70 at hF;split at hF
  · rename_i n
    split at hF
    · rename_i hn
      obtain⟨h0,h1⟩:=hn;simp at hF
      obtain⟨rfl,rfl⟩:=hF;cases ha with
      | one ha1 ha =>
        cases ha with
        | one ha2 ha =>
          cases ha
          cases ha1 with
          | pure ha1 =>
            cases ha2 with
            | pure ha2 =>
              cases ha1 with
              | nil a =>
                cases ha2 with
                | v _ _ _ =>
                  obtain⟨N,rfl⟩:∃ N:Nat,n=N:=⟨n.toNat,by omega⟩
                  by_cases hN:N=0
                  · subst hN
                    refine Calls.mono (Any8.slices_Grow_room Tryz.lays8 a 0 0 0 w (by omega) (by omega) (by omega) (by omega)) ?_;rintro e w' ⟨rfl,rfl⟩
                    exact⟨_,S,_,_,rfl,.base (.one (.none 1 a)),.skip (by simp) (by simp) (.skip (by simp) (by simp) .nil),by simp[Zq],⟨XE.refl _ _ _,fun _ _ h=>h,fun _ _ h=>.inl h,hlt⟩⟩
                  · obtain⟨i,z,hi,hz,hsz,hby,hzs⟩:=info5
                    refine Calls.mono (Any8.slices_Grow_grow Tryz.lays8 i z hi hz (by omega) a 0 0 N [] w (by omega) (by omega) (by rw[hby]; omega) (by omega) (by simp) (by simp) (by simp)) ?_;rintro e w' ⟨rfl,rfl⟩
                    have nb:=ZdG.drew w ((([]:List Value).toArray++Builtin.zeroCells z.cells (0+N-0)++Builtin.zeroCells z.cells (grownCap w (0+N) 0 (Tryz.lays8_ren.t 25)-(0+N)))) (Tryz.lays8_ren.t 25);have hge:=Zk7 w (0+N) 0 (Tryz.lays8_ren.t 25);have hcm:=grownCap_le_maxLen w (0+N) 0 (Tryz.lays8_ren.t 25) (by unfold maxLen; omega);generalize grownCap w (0+N) 0 (Tryz.lays8_ren.t 25)=C at *;refine⟨_,S,_,_,rfl,.base (.one (.own 1 [] 0 w.heap.size C rfl ⟨.inl (Nat.le_refl _),⟨_,_,nb.new,?_,by simp⟩,by simp,hcm,by simp,fun o h=>absurd (hlt _ _ h) (by omega)⟩)),.skip (by simp) (by simp) (.skip (by simp) (by simp) .nil),by simp[Zq],⟨⟨nb.os,nb.tape,nb.output,by rw[nb.size]; omega,fun b hb _=>nb.old b hb,fun b arr T hb=>by simp[Zq] at hb⟩,fun _ _ h=>h,fun _ _ h=>.inl h,fun b o h=>by rw[nb.size]; exact Nat.lt_succ_of_lt (hlt b o h)⟩⟩;rw[Array.size_append,Array.size_append,Zhj hzs,Zhj hzs];simp
                    omega
    · cases hF
  · cases hF
end Go.Proofs.YtbppknpnmjhjpaaGreatDoor
