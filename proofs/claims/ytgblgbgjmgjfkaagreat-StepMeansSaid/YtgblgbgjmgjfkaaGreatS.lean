/- Part of a proof. -/
import Derived.Test.YtgblgbgjmgjfkaaGreatD

open List renaming getElem?_eq_some_iff->aac,replicate->acp,drop_eq_getElem_cons->adB
set_option maxRecDepth 100000
set_option maxHeartbeats 8000000
namespace S9
open Ax Go aO V7 iQ iZ K9
def cE(f:Option Int):Int:=match f with|some _=>3|none=>0
def cX(f:Option Int):Int:=match f with|some x=>x|none=>0
def cO(f:Option Int):dJ:=.rows 0 2 [[.int .i64 (cE f),.int .i64 (cX f)]]
abbrev sO(v:Nat)(su:List Bool):dJ:=.rows v 1 (kG su)
variable{st:aj}{i:Nat}
theorem jX{o:dJ}(h:st[i]?=some o):st.set i o=st:=by
 obtain⟨g,H⟩:=aac.1 h;rw[<-H,List.set_getElem_self]
theorem lH{o p:dJ}(h:st[i]?=some o):(st.set i p)[i]?=some p:=by
 obtain⟨H,_⟩:=aac.1 h;rw[List.getElem?_set_self H]
theorem wE{j:Nat}{p:dJ}(h:i≠j):(st.set i p)[j]?=st[j]?:=List.getElem?_set_ne h
theorem wF{s:List Bool}{k:Nat}(h:k<s.length):(kG s)[k]?=some [.bool s[k]]:=by simp[kG,h]
end S9
namespace S9
open Ax Go aO V7 iQ iZ K9
variable{rs:List jv}{P:AV->aj->Prop}
theorem lI{st:aj}{s:St}:ExQ rs Ax.Mode.AA st P .normal s↔∃v,CC s rs=some v/\P v s.st:=by
 simp only[ExQ,Qu,Ax.Mode.oJ];constructor;rintro⟨r,⟨v,h,g⟩,H⟩;cases g;exact⟨v,h,H⟩;rintro⟨v,h,H⟩;exact⟨(v,s.st),⟨v,h,rfl⟩,H⟩
theorem fV{st:aj}{v:AV}{s:St}:ExQ rs Ax.Mode.AA st P (.ret v) s↔P v s.st:=by
 simp only[ExQ,Qt,Ax.Mode.oJ];constructor;rintro⟨r,H,g⟩;cases H;exact g;exact λh=>⟨(v,s.st),rfl,h⟩
theorem Q9(s:List Bool):(kG s).map AV.cC=kG s:=by
 simp only[kG,List.map_map];exact List.map_congr_left λ_ _=>rfl
end S9
namespace S9
open Ax Go aO V7 iQ iZ K9
theorem gh{s:Sm}:bf (bG s.es)=true/\bf (bZ s.bd)=true/\bf (bZ s.el)=true:=⟨ck,cQ,cQ⟩
def jG:aT->aT
 |.seq _ b=>b|x=>x
theorem Ra{s:List Bool}{k:Nat}(h:k<s.length):(acp k true++s.drop k).set k true=acp (k+1) true++s.drop (k+1):=by
 rw[adB h,List.set_append_right _ _ (by simp)];simp only[List.length_replicate,Nat.sub_self,List.set_cons_zero,List.replicate_succ',List.append_assoc,List.singleton_append]
end S9
namespace S9
open Ax Go aO V7 iQ iZ K9
open N7 U7 in
def pM(p:Pg):Option Int:=match ke (lG p) with
 |some a=>some a|none=>match qJ (aX p) (aX p).aW p.funcs with
  |.error a=>some a|.ok bs=>Lq (aX p).aW bs
def F4(o:Option Int):AV:=.agg [.int .i64 (cE o),.int .i64 (cX o)]
theorem Yr{n:Nat}:acp n [AV.bool false]=kG (acp n false):=by simp[kG]
theorem agE{N n:Nat}:acp N true++(acp n false).drop N=acp N true++acp (n-N) false:=by rw[List.drop_replicate]
theorem zH{H:Hd}:∀{S:List Sg}{fs:List Fc}{bs:List Bd},S.length=fs.length->qJ H S fs=.ok bs->bs.length=fs.length
 |[],[],bs,_,h=>by unfold qJ at h;cases h;rfl|[],_::_,_,h,_=>by simp at h|_::_,[],_,h,_=>by simp at h|s::S,f::fs,bs,g,h=>by
  unfold qJ at h;split at h;cases h;split at h;cases h;rename_i l N;cases h;have:=zH (by simpa using g) N;simp[this]
theorem Ys{S:List Sg}{bs:List Bd}{k:Nat}(h:k<S.length)(H:k<bs.length):Lq (S.drop k) (bs.drop k)=xz (mE (su0 S[k] bs[k]) bs[k].code).2 (Lq (S.drop (k+1)) (bs.drop (k+1))):=by
 rw[adB h,adB H];rfl
theorem aco{S:List Sg}:Lq S []=none:=by cases S<;>rfl
end S9
