/- Part of a proof. -/
import Derived.Test.YtlcehclecbakiaaGreatC
import Derived.Test.YtlcehclecbakiaaGreatP
import Derived.Test.YtlcehclecbakiaaGreatD

open List renaming getElem?_eq_some_iff→aab,replicate→aaO,drop_eq_getElem_cons→aa3
set_option maxRecDepth 100000
set_option maxHeartbeats 8000000
namespace S9
open Ax Go aF V7 jw jX K9
def cE(f:Option Int):Int:=match f with|some _=>3|none=>0
def cX(f:Option Int):Int:=match f with|some x=>x|none=>0
def cO(f:Option Int):dK:=.rows 0 2 [[.int .i64 (cE f),.int .i64 (cX f)]]
abbrev sO(v:Nat)(su:List Bool):dK:=.rows v 1 (jb su)
theorem jK{st:ag}{i:Nat}{o:dK}(h:st[i]?=some o):st.set i o=st:=by
 obtain⟨h1,h2⟩:=aab.1 h;rw[<-h2,List.set_getElem_self]
theorem jN{st:ag}{i:Nat}{o p:dK}(h:st[i]?=some o):(st.set i p)[i]?=some p:=by
 obtain⟨h1,_⟩:=aab.1 h;rw[List.getElem?_set_self h1]
theorem jU{st:ag}{i j:Nat}{p:dK}(h:i≠j):(st.set i p)[j]?=st[j]?:=List.getElem?_set_ne h
theorem sK{su:List Bool}{k:Nat}(h:k<su.length):(jb su)[k]?=some [.bool su[k]]:=by simp[jb,h]
end S9
namespace S9
open Ax Go aF V7 jw jX K9
theorem Wk{rs:List iE}{st:ag}{P:AV->ag->Prop}{s:St}:ExQ rs Ax.Mode.SH st P .normal s↔∃v,yI s rs=some v/\P v s.st:=by
 simp only[ExQ,K2,Ax.Mode.nZ];constructor;rintro⟨r,⟨v,h0,h1⟩,h2⟩;cases h1;exact⟨v,h0,h2⟩;rintro⟨v,h0,h2⟩;exact⟨(v,s.st),⟨v,h0,rfl⟩,h2⟩
theorem LO(su:List Bool):(jb su).map AV.cG=jb su:=by
 simp only[jb,List.map_map];exact List.map_congr_left λ_ _=>rfl
end S9
namespace S9
open Ax Go aF V7 jw jX K9
theorem eO{s:Sm}:aL (bf s.es)=true/\aL (bN s.bd)=true/\aL (bN s.el)=true:=⟨bQ,cZ,cZ⟩
def iF:aX->aX
 |.seq _ b=>b|x=>x
theorem LP{su:List Bool}{k:Nat}(h:k<su.length):(aaO k true++su.drop k).set k true=aaO (k+1) true++su.drop (k+1):=by
 rw[aa3 h,List.set_append_right _ _ (by simp)];simp only[List.length_replicate,Nat.sub_self,List.set_cons_zero,List.replicate_succ',List.append_assoc,List.singleton_append]
end S9
namespace S9
open Ax Go aF V7 jw jX K9
open N7 U7 in
def AR(p:Pg):Option Int:=match jy (kO p) with
 |some a=>some a|none=>match ue (aW p) (aW p).sigs p.funcs with
  |.error a=>some a|.ok bs=>Gj (aW p).sigs bs
def Fp(o:Option Int):AV:=.agg [.int .i64 (cE o),.int .i64 (cX o)]
theorem RU{n:Nat}:aaO n [AV.bool false]=jb (aaO n false):=by simp[jb]
theorem aah{np n:Nat}:aaO np true++(aaO n false).drop np=aaO np true++aaO (n-np) false:=by rw[List.drop_replicate]
theorem Jp{H:Hd}:∀{ss:List Sg}{fs:List Fc}{bs:List Bd},ss.length=fs.length->ue H ss fs=.ok bs->bs.length=fs.length
 |[],[],bs,_,h=>by unfold ue at h;cases h;rfl|[],_::_,_,h,_=>by simp at h|_::_,[],_,h,_=>by simp at h|s::ss,f::fs,bs,hl,h=>by
  unfold ue at h;split at h;cases h;split at h;cases h;rename_i l kH;cases h;have:=Jp (by simpa using hl) kH;simp[this]
theorem RW{ss:List Sg}{bs:List Bd}{k:Nat}(h:k<ss.length)(h2:k<bs.length):Gj (ss.drop k) (bs.drop k)=tE (kB (su0 ss[k] bs[k]) bs[k].code).2 (Gj (ss.drop (k+1)) (bs.drop (k+1))):=by
 rw[aa3 h,aa3 h2];rfl
theorem Wl{ss:List Sg}:Gj ss []=none:=by cases ss<;>rfl
end S9
