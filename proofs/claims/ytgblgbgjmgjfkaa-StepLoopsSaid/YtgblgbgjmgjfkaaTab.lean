/- Part of a proof. -/
import Derived.Test.YtgblgbgjmgjfkaaCode1
import Derived.Test.YtgblgbgjmgjfkaaA6
import Derived.Test.YtgblgbgjmgjfkaaRows
import Derived.Test.YtgblgbgjmgjfkaaI

set_option maxRecDepth 100000
namespace Go.Proofs.Ytgblgbgjmgjfkaa
open Ax
theorem tab:MTab Code14.S Try.prog:=mtab_of (by kernel_rfl) (by kernel_rfl)
theorem hom:Home Code14.S Try.checked [3,4,9,22,23,24,25,27,28,38,40,41,43,67,68,70,72]:=⟨by kernel_rfl,tab,kids_rows (by kernel_rfl) (by kernel_rfl),slices_full_of Try.prog (by kernel_rfl),by kernel_rfl⟩
end Go.Proofs.Ytgblgbgjmgjfkaa
namespace Go.Proofs.Ytgblgbgjmgjfkaa
open Ax IrV
theorem tyFs_nil {P:Program}{xs:List AV}(h:TyFs P [] xs):xs=[]:=by cases h;rfl
theorem tyFs_cons {P:Program}{f:Field}{fs:List Field}{xs:List AV}(h:TyFs P (f::fs) xs):∃a b,xs=a++b/\Ty P f.type a/\TyFs P fs b:=by
 cases h with
 |cons _ h1 h2=>exact⟨_,_,rfl,h1,h2⟩
theorem ty_no {P:Program}{t e:TypeId}{v:AV}(h1:P.underlying t=some (.slice e))(h:Ty P t [v]):notOwn v=true:=by
 cases h with
 |nilSl hu=>rfl
 |emp hu=>rfl
 |lst hu rows hn hl h2=>rfl
 |bool hu=>rfl
 |int hu=>rfl
 |str hu=>rfl
 |recd hu _ h2=>rw[h1]at hu;cases hu
theorem inR_of {n:Int}(h1:IntKind.i64.min<=n)(h2:n<=IntKind.i64.max):inR n=true:=by
 have a:(IntKind.i64.min:Int) = -9223372036854775808:=by decide
 have b:(IntKind.i64.max:Int)=9223372036854775807:=by decide
 rw[a]at h1;rw[b]at h2
 simp[inR,h1,h2]
theorem u3:Try.prog.underlying 3=some (.int .i64):=by kernel_rfl
theorem u4:Try.prog.underlying 4=some .bool:=by kernel_rfl
theorem u9:Try.prog.underlying 9=some .string:=by kernel_rfl
theorem u22:Try.prog.underlying 22=some (.slice 70):=by kernel_rfl
theorem u23:Try.prog.underlying 23=some (.slice 38):=by kernel_rfl
theorem u24:Try.prog.underlying 24=some (.slice 43):=by kernel_rfl
theorem u25:Try.prog.underlying 25=some (.slice 67):=by kernel_rfl
theorem u28:Try.prog.underlying 28=some (.slice 3):=by kernel_rfl
theorem u41:Try.prog.underlying 41=some (.slice 40):=by kernel_rfl
theorem u68:Try.prog.underlying 68=some (.slice 72):=by kernel_rfl
theorem c3:Try.prog.cellsOf 3=1:=by kernel_rfl
theorem c38:Try.prog.cellsOf 38=3:=by kernel_rfl
theorem c43:Try.prog.cellsOf 43=7:=by kernel_rfl
theorem c40:Try.prog.cellsOf 40=6:=by kernel_rfl
theorem c72:Try.prog.cellsOf 72=4:=by kernel_rfl
theorem c70:Try.prog.cellsOf 70=2:=by kernel_rfl
theorem c67:Try.prog.cellsOf 67=4:=by kernel_rfl
theorem ty_i {xs:List AV}(h:Ty Try.prog 3 xs):∃n,xs=[.int .i64 n]/\inR n=true:=by
 obtain⟨n,rfl,a,b⟩:=ty_int u3 h
 exact⟨n,rfl,inR_of a b⟩
theorem ty_rows {t e:TypeId}{sz:Nat}{p:List AV->Bool}{xs:List AV}(h1:Try.prog.underlying t=some (.slice e))(hc:Try.prog.cellsOf e=sz)(hr:∀r,Ty Try.prog e r->p r=true)(h:Ty Try.prog t xs) :
  ∃v,xs=[v]/\isRows sz p v=true:=by
 obtain⟨v,rfl,a,b,_⟩:=ty_slice h1 h
 refine⟨v,rfl,?_⟩
 rw[hc]at a
 simp only[isRows,ty_no h1 h,a,Bool.true_and,Bool.and_self,List.all_eq_true]
 exact fun r hrr=>hr r (b r hrr)
def flds (P:Program)(t:TypeId):Option (List TypeId):=match P.underlying t with
 |some (.struct fs)=>some (fs.toList.map (·.type))
 |_=>none
def TyTs (P:Program):List TypeId->List AV->Prop
 |[],xs=>xs=[]
 |t::ts,xs=>∃a b,xs=a++b/\Ty P t a/\TyTs P ts b
theorem tyTs_of {P:Program}:∀{fs:List Field}{xs:List AV},TyFs P fs xs->TyTs P (fs.map (·.type)) xs
 |[],_,h=>tyFs_nil h
 |_::_,_,h=>by
  obtain⟨a,b,e,h1,h2⟩:=tyFs_cons h
  exact⟨a,b,e,h1,tyTs_of h2⟩
theorem ty_flds {P:Program}{t:TypeId}{ts:List TypeId}{xs:List AV}(h1:flds P t=some ts)(h:Ty P t xs):TyTs P ts xs:=by
 unfold flds at h1
 split at h1
 ·rename_i fs hu
  cases h1
  exact tyTs_of (ty_struct hu h)
 ·cases h1
theorem tyV_flds {P:Program}{t:TypeId}{ts:List TypeId}{a:AV}(h1:flds P t=some ts)(h:TyV P t a):∃xs,a=.agg xs/\TyTs P ts xs:=by
 rcases h with⟨fs,xs,h2,h3,h4⟩|⟨h2,_⟩
 ·exact⟨xs,h3,ty_flds h1 h4⟩
 ·unfold flds at h1
  split at h1
  ·rename_i fs hu;exact absurd hu (h2 fs)
  ·cases h1
theorem f38:flds Try.prog 38=some [3,3,3]:=by kernel_rfl
theorem f72:flds Try.prog 72=some [9,38]:=by kernel_rfl
theorem f70:flds Try.prog 70=some [9,68]:=by kernel_rfl
theorem f67:flds Try.prog 67=some [3,38]:=by kernel_rfl
theorem f40:flds Try.prog 40=some [3,3,3,3,3,28]:=by kernel_rfl
theorem f43:flds Try.prog 43=some [3,23,4,38,41]:=by kernel_rfl
theorem f27:flds Try.prog 27=some [22,23,24,25,3]:=by kernel_rfl
theorem s38 {xs:List AV}(h:Ty Try.prog 38 xs):∃a b c,xs=[.int .i64 a,.int .i64 b,.int .i64 c]/\inR a=true/\inR b=true/\inR c=true:=by
 obtain⟨_,_,rfl,h1,_,_,rfl,h2,_,_,rfl,h3,rfl⟩:=ty_flds f38 h
 obtain⟨a,rfl,ha⟩:=ty_i h1
 obtain⟨b,rfl,hb⟩:=ty_i h2
 obtain⟨c,rfl,hc⟩:=ty_i h3
 exact⟨a,b,c,rfl,ha,hb,hc⟩
theorem r38 (xs:List AV)(h:Ty Try.prog 38 xs):tyRow xs=true:=by
 obtain⟨a,b,c,rfl,ha,hb,hc⟩:=s38 h
 simp[tyRow,ha,hb,hc]
theorem r72 (xs:List AV)(h:Ty Try.prog 72 xs):fdRow xs=true:=by
 obtain⟨_,_,rfl,h1,_,_,rfl,h2,rfl⟩:=ty_flds f72 h
 obtain⟨s,rfl,_⟩:=ty_str u9 h1
 obtain⟨a,b,c,rfl,ha,hb,hc⟩:=s38 h2
 simp[fdRow,ha,hb,hc]
theorem r67 (xs:List AV)(h:Ty Try.prog 67 xs):sdRow xs=true:=by
 obtain⟨_,_,rfl,h1,_,_,rfl,h2,rfl⟩:=ty_flds f67 h
 obtain⟨s,rfl,hs⟩:=ty_i h1
 obtain⟨a,b,c,rfl,ha,hb,hc⟩:=s38 h2
 simp[sdRow,hs,ha,hb,hc]
theorem s68 {xs:List AV}(h:Ty Try.prog 68 xs):∃v,xs=[v]/\isFs v=true:=ty_rows u68 c72 r72 h
theorem s23 {xs:List AV}(h:Ty Try.prog 23 xs):∃v,xs=[v]/\isTs v=true:=ty_rows u23 c38 r38 h
theorem s25 {xs:List AV}(h:Ty Try.prog 25 xs):∃v,xs=[v]/\isSs v=true:=ty_rows u25 c67 r67 h
theorem r70 (xs:List AV)(h:Ty Try.prog 70 xs):rdRow xs=true:=by
 obtain⟨_,_,rfl,h1,_,_,rfl,h2,rfl⟩:=ty_flds f70 h
 obtain⟨s,rfl,_⟩:=ty_str u9 h1
 obtain⟨v,rfl,hv⟩:=s68 h2
 exact hv
theorem s22 {xs:List AV}(h:Ty Try.prog 22 xs):∃v,xs=[v]/\isRs v=true:=ty_rows u22 c70 r70 h
theorem s28 {xs:List AV}(h:Ty Try.prog 28 xs):∃v,xs=[v]/\isI v=true/\notOwn v=true:=by
 obtain⟨v,rfl,hv,_⟩:=ty_I u28 u3 c3 h
 exact⟨v,rfl,hv,ty_no u28 h⟩
theorem s40 {xs:List AV}(h:TyTs Try.prog [3,3,3,3,3,28] xs):∃i:ID,xs=i.cells/\idRow xs=true:=by
 obtain⟨_,_,rfl,h1,_,_,rfl,h2,_,_,rfl,h3,_,_,rfl,h4,_,_,rfl,h5,_,_,rfl,h6,rfl⟩:=h
 obtain⟨a,rfl,ha⟩:=ty_i h1
 obtain⟨b,rfl,hb⟩:=ty_i h2
 obtain⟨c,rfl,hc⟩:=ty_i h3
 obtain⟨d,rfl,hd⟩:=ty_i h4
 obtain⟨e,rfl,he⟩:=ty_i h5
 obtain⟨v,rfl,hv,hv2⟩:=s28 h6
 exact⟨⟨a,b,c,d,e,v⟩,rfl,by simp[idRow,ha,hb,hc,hd,he,hv,hv2]⟩
theorem r40 (xs:List AV)(h:Ty Try.prog 40 xs):idRow xs=true:=by
 obtain⟨_,_,h2⟩:=s40 (ty_flds f40 h)
 exact h2
theorem s41 {xs:List AV}(h:Ty Try.prog 41 xs):∃v,xs=[v]/\isNs v=true:=ty_rows u41 c40 r40 h
theorem r43 (xs:List AV)(h:Ty Try.prog 43 xs):cdRow xs=true:=by
 obtain⟨_,_,rfl,h1,_,_,rfl,h2,_,_,rfl,h3,_,_,rfl,h4,_,_,rfl,h5,rfl⟩:=ty_flds f43 h
 obtain⟨a,rfl,ha⟩:=ty_i h1
 obtain⟨v,rfl,hv⟩:=s23 h2
 obtain⟨b,rfl⟩:=ty_bool u4 h3
 obtain⟨p,q,r,rfl,hp,hq,hr⟩:=s38 h4
 obtain⟨w,rfl,hw⟩:=s41 h5
 simp[cdRow,ha,hv,hp,hq,hr,hw]
theorem s24 {xs:List AV}(h:Ty Try.prog 24 xs):∃v,xs=[v]/\isCs v=true:=ty_rows u24 c43 r43 h
theorem ty27 {a:AV}(h:TyV Try.prog 27 a):∃x:XD,a=.agg x.cells/\x.ok:=by
 obtain⟨xs,rfl,_,_,rfl,h1,_,_,rfl,h2,_,_,rfl,h3,_,_,rfl,h4,_,_,rfl,h5,rfl⟩:=tyV_flds f27 h
 obtain⟨v1,rfl,k1⟩:=s22 h1
 obtain⟨v2,rfl,k2⟩:=s23 h2
 obtain⟨v3,rfl,k3⟩:=s24 h3
 obtain⟨v4,rfl,k4⟩:=s25 h4
 obtain⟨m,rfl,_⟩:=ty_i h5
 exact⟨⟨v1,v2,v3,v4,m⟩,rfl,⟨k1,k2,k3,k4⟩⟩
theorem ty3 {a:AV}(h:TyV Try.prog 3 a):∃n,a=.int .i64 n/\inR n=true:=by
 obtain⟨n,e,hn⟩:=ty_i (tyV_one (fun fs h=>by rw[u3]at h;cases h) h)
 cases e
 exact⟨n,rfl,hn⟩
end Go.Proofs.Ytgblgbgjmgjfkaa
