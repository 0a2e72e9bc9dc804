/- Part of a proof. -/
import Derived.Test.YtgblgbgjmgjfkaaGreatD

open List renaming length->Q
open Option renaming some->Z,none->K
open Bool renaming true->Y,false->X
open List renaming getElem?_eq_some_iff->aad,replicate->aag,drop_eq_getElem_cons->aan
set_option maxRecDepth 100000
set_option maxHeartbeats 8000000
namespace S9
open Ax Go aM V7 jb jn K9
def cE(f:Option Int):Int:=match f with|some _=>3|none=>0
def cX(f:Option Int):Int:=match f with|some x=>x|none=>0
def cO(f:Option Int):iW:=.rows 0 2 [[.int .i64 (cE f),.int .i64 (cX f)]]
abbrev sO(v:Nat)(su:List Bool):iW:=.rows v 1 (lK su)
variable{st:aO}
theorem kL{i o}(h:st[i]?=Z o):st.set i o=st:=by
 obtain⟨g,H⟩:=aad.1 h;rw[<-H,List.set_getElem_self]
theorem mz{i o p}(h:st[i]?=Z o):(st.set i p)[i]?=Z p:=by
 obtain⟨H,_⟩:=aad.1 h;rw[List.getElem?_set_self H]
theorem xm{i j p}(h:i≠j):(st.set i p)[j]?=st[j]?:=List.getElem?_set_ne h
theorem xq{s}{k:Nat}(h):(lK s)[k]?=Z [.bool s[k]]:=by simp[lK,h]
end S9
namespace S9
open Ax Go aM V7 jb jn K9
theorem mA{rs st P s}:ExQ rs Ax.Mode.Bw st P .normal s↔∃v,Du s rs=Z v/\P v s.st:=by
 simp only[ExQ,Rd,Ax.Mode.mJ];constructor;rintro⟨r,⟨v,B,h⟩,H⟩;cases h;exact⟨v,B,H⟩;rintro⟨v,B,H⟩;exact⟨(v,s.st),⟨v,B,rfl⟩,H⟩
theorem gw{rs st P v s}:ExQ rs Ax.Mode.Bw st P (.ret v) s↔P v s.st:=by
 simp only[ExQ,Rb,Ax.Mode.mJ];constructor;rintro⟨r,H,g⟩;cases H;exact g;exact λh=>⟨(v,s.st),rfl,h⟩
theorem Sc(s):(lK s).map AV.cP=lK s:=by
 simp only[lK,List.map_map];exact List.map_congr_left λ_ _=>rfl
theorem gJ{s:Sm}:bn (bL s.es)=Y/\bn (cn s.bd)=Y/\bn (cn s.el)=Y:=⟨cu,cW,cW⟩
def j7:aW->aW
 |.seq _ b=>b|x=>x
theorem Se{s:List Bool}{k}(h:k<Q s):(aag k Y++s.drop k).set k Y=aag (k+1) Y++s.drop (k+1):=by
 rw[aan h,List.set_append_right _ _ (by simp)];simp only[List.length_replicate,Nat.sub_self,List.set_cons_zero,List.replicate_succ',List.append_assoc,List.singleton_append]
open N7 U7 in
def qc(p:Pg):Option Int:=match kR (mw p) with
 |some a=>Z a|none=>match rK (aY p) (aY p).aZ p.funcs with
  |.error a=>Z a|.ok bs=>Mb (aY p).aZ bs
def G8(o:Option Int):AV:=.agg [.int .i64 (cE o),.int .i64 (cX o)]
theorem Zk{n}:aag n [AV.bool X]=lK (aag n X):=by simp[lK]
theorem ahR{N n}:aag N Y++(aag n X).drop N=aag N Y++aag (n-N) X:=by rw[List.drop_replicate]
theorem AD{H}:∀{S:List Sg}{fs:List Fc}{bs:List Bd},Q S=Q fs->rK H S fs=.ok bs->Q bs=Q fs
 |[],[],bs,_,h=>by unfold rK at h;cases h;rfl|[],_::_,_,h,_=>by simp at h|_::_,[],_,h,_=>by simp at h|s::S,f::fs,bs,g,h=>by
  unfold rK at h;split at h;cases h;split at h;cases h;rename_i l F;cases h;have:=AD (by simpa using g) F;simp[this]
theorem Zl{S:List Sg}{bs:List Bd}{k}(h)(H:k<Q bs):Mb (S.drop k) (bs.drop k)=yc (nA (su0 S[k] bs[k]) bs[k].code).2 (Mb (S.drop (k+1)) (bs.drop (k+1))):=by
 rw[aan h,aan H];rfl
theorem adA{S}:Mb S []=K:=by cases S<;>rfl
end S9
