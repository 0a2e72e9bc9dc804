/- Part of a proof. -/
import Derived.Test.YtgblgbgjmgjfkaaGreatCode2
import Derived.Test.YtgblgbgjmgjfkaaGreatA6
import Derived.Test.YtgblgbgjmgjfkaaGreatRows
import Derived.Test.YtgblgbgjmgjfkaaGreatI

set_option maxRecDepth 100000
namespace Go.Proofs.YtgblgbgjmgjfkaaGreat
open Ax
theorem tab:MTab Code14z.S Tryz.prog:=mtab_of (by kernel_rfl) (by kernel_rfl)
theorem hom:Home Code14z.S Tryz.checked [3,4,9,22,23,24,25,27,28,52,55,69,117,133,136,53,105]:=⟨by kernel_rfl,tab,kids_rows (by kernel_rfl) (by kernel_rfl),slices_full_of Tryz.prog (by kernel_rfl),by kernel_rfl⟩
end Go.Proofs.YtgblgbgjmgjfkaaGreat
namespace Go.Proofs.YtgblgbgjmgjfkaaGreat
open Ax IrV
theorem tyFs_nil{P:Program}{xs:List AV}(h:TyFs P [] xs):xs=[]:=by cases h;rfl
theorem tyFs_cons{P:Program}{f:Field}{fs:List Field}{xs:List AV}(h:TyFs P (f::fs) xs):∃a b,xs=a++b/\Ty P f.type a/\TyFs P fs b:=by
 cases h with
 |cons _ h1 h2=>exact⟨_,_,rfl,h1,h2⟩
theorem ty_no{P:Program}{t e:TypeId}{v:AV}(h1:P.underlying t=some (.slice e))(h:Ty P t [v]):notOwn v=true:=by
 cases h with
 |nilSl hu=>rfl
 |emp hu=>rfl
 |lst hu rows hn hl h2=>rfl
 |bool hu=>rfl
 |int hu=>rfl
 |str hu=>rfl
 |recd hu _ h2=>rw[h1]at hu;cases hu
theorem inR_of{n:Int}(h1:IntKind.i64.min<=n)(h2:n<=IntKind.i64.max):inR n=true:=by
 have a:(IntKind.i64.min:Int) = -9223372036854775808:=by decide
 have b:(IntKind.i64.max:Int)=9223372036854775807:=by decide
 rw[a]at h1;rw[b]at h2
 simp[inR,h1,h2]
theorem u3:Tryz.prog.underlying 3=some (.int .i64):=by kernel_rfl
theorem u4:Tryz.prog.underlying 4=some .bool:=by kernel_rfl
theorem u9:Tryz.prog.underlying 9=some .string:=by kernel_rfl
theorem u22:Tryz.prog.underlying 22=some (.slice 133):=by kernel_rfl
theorem u23:Tryz.prog.underlying 23=some (.slice 52):=by kernel_rfl
theorem u24:Tryz.prog.underlying 24=some (.slice 55):=by kernel_rfl
theorem u25:Tryz.prog.underlying 25=some (.slice 136):=by kernel_rfl
theorem u28:Tryz.prog.underlying 28=some (.slice 3):=by kernel_rfl
theorem u53:Tryz.prog.underlying 53=some (.slice 69):=by kernel_rfl
theorem u105:Tryz.prog.underlying 105=some (.slice 117):=by kernel_rfl
theorem c3:Tryz.prog.cellsOf 3=1:=by kernel_rfl
theorem c52:Tryz.prog.cellsOf 52=3:=by kernel_rfl
theorem c55:Tryz.prog.cellsOf 55=7:=by kernel_rfl
theorem c69:Tryz.prog.cellsOf 69=6:=by kernel_rfl
theorem c117:Tryz.prog.cellsOf 117=4:=by kernel_rfl
theorem c133:Tryz.prog.cellsOf 133=2:=by kernel_rfl
theorem c136:Tryz.prog.cellsOf 136=4:=by kernel_rfl
theorem ty_i{xs:List AV}(h:Ty Tryz.prog 3 xs):∃n,xs=[.int .i64 n]/\inR n=true:=by
 obtain⟨n,rfl,a,b⟩:=ty_int u3 h
 exact⟨n,rfl,inR_of a b⟩
theorem ty_rows{t e:TypeId}{sz:Nat}{p:List AV->Bool}{xs:List AV}(h1:Tryz.prog.underlying t=some (.slice e))(hc:Tryz.prog.cellsOf e=sz)(hr:∀r,Ty Tryz.prog e r->p r=true)(h:Ty Tryz.prog t xs) :
  ∃v,xs=[v]/\isRows sz p v=true:=by
 obtain⟨v,rfl,a,b,_⟩:=ty_slice h1 h
 refine⟨v,rfl,?_⟩
 rw[hc]at a
 simp only[isRows,ty_no h1 h,a,Bool.true_and,Bool.and_self,List.all_eq_true]
 exact fun r hrr=>hr r (b r hrr)
def flds(P:Program)(t:TypeId):Option (List TypeId):=match P.underlying t with
 |some (.struct fs)=>some (fs.toList.map (·.type))
 |_=>none
def TyTs(P:Program):List TypeId->List AV->Prop
 |[],xs=>xs=[]
 |t::ts,xs=>∃a b,xs=a++b/\Ty P t a/\TyTs P ts b
theorem tyTs_of{P:Program}:∀{fs:List Field}{xs:List AV},TyFs P fs xs->TyTs P (fs.map (·.type)) xs
 |[],_,h=>tyFs_nil h
 |_::_,_,h=>by
  obtain⟨a,b,e,h1,h2⟩:=tyFs_cons h
  exact⟨a,b,e,h1,tyTs_of h2⟩
theorem ty_flds{P:Program}{t:TypeId}{ts:List TypeId}{xs:List AV}(h1:flds P t=some ts)(h:Ty P t xs):TyTs P ts xs:=by
 unfold flds at h1
 split at h1
 ·rename_i fs hu
  cases h1
  exact tyTs_of (ty_struct hu h)
 ·cases h1
theorem tyV_flds{P:Program}{t:TypeId}{ts:List TypeId}{a:AV}(h1:flds P t=some ts)(h:TyV P t a):∃xs,a=.agg xs/\TyTs P ts xs:=by
 rcases h with⟨fs,xs,h2,h3,h4⟩|⟨h2,_⟩
 ·exact⟨xs,h3,ty_flds h1 h4⟩
 ·unfold flds at h1
  split at h1
  ·rename_i fs hu;exact absurd hu (h2 fs)
  ·cases h1
theorem f52:flds Tryz.prog 52=some [3,3,3]:=by kernel_rfl
theorem f117:flds Tryz.prog 117=some [9,52]:=by kernel_rfl
theorem f133:flds Tryz.prog 133=some [9,105]:=by kernel_rfl
theorem f136:flds Tryz.prog 136=some [3,52]:=by kernel_rfl
theorem f69:flds Tryz.prog 69=some [3,3,3,3,3,28]:=by kernel_rfl
theorem f55:flds Tryz.prog 55=some [3,23,4,52,53]:=by kernel_rfl
theorem f27:flds Tryz.prog 27=some [22,23,24,25,3]:=by kernel_rfl
theorem s52{xs:List AV}(h:Ty Tryz.prog 52 xs):∃a b c,xs=[.int .i64 a,.int .i64 b,.int .i64 c]/\inR a=true/\inR b=true/\inR c=true:=by
 obtain⟨_,_,rfl,h1,_,_,rfl,h2,_,_,rfl,h3,rfl⟩:=ty_flds f52 h
 obtain⟨a,rfl,ha⟩:=ty_i h1
 obtain⟨b,rfl,hb⟩:=ty_i h2
 obtain⟨c,rfl,hc⟩:=ty_i h3
 exact⟨a,b,c,rfl,ha,hb,hc⟩
theorem r52(xs:List AV)(h:Ty Tryz.prog 52 xs):tyRow xs=true:=by
 obtain⟨a,b,c,rfl,ha,hb,hc⟩:=s52 h
 simp[tyRow,ha,hb,hc]
theorem r117(xs:List AV)(h:Ty Tryz.prog 117 xs):fdRow xs=true:=by
 obtain⟨_,_,rfl,h1,_,_,rfl,h2,rfl⟩:=ty_flds f117 h
 obtain⟨s,rfl,_⟩:=ty_str u9 h1
 obtain⟨a,b,c,rfl,ha,hb,hc⟩:=s52 h2
 simp[fdRow,ha,hb,hc]
theorem r136(xs:List AV)(h:Ty Tryz.prog 136 xs):sdRow xs=true:=by
 obtain⟨_,_,rfl,h1,_,_,rfl,h2,rfl⟩:=ty_flds f136 h
 obtain⟨s,rfl,hs⟩:=ty_i h1
 obtain⟨a,b,c,rfl,ha,hb,hc⟩:=s52 h2
 simp[sdRow,hs,ha,hb,hc]
theorem s105{xs:List AV}(h:Ty Tryz.prog 105 xs):∃v,xs=[v]/\isFs v=true:=ty_rows u105 c117 r117 h
theorem s23{xs:List AV}(h:Ty Tryz.prog 23 xs):∃v,xs=[v]/\isTs v=true:=ty_rows u23 c52 r52 h
theorem s25{xs:List AV}(h:Ty Tryz.prog 25 xs):∃v,xs=[v]/\isSs v=true:=ty_rows u25 c136 r136 h
theorem r133(xs:List AV)(h:Ty Tryz.prog 133 xs):rdRow xs=true:=by
 obtain⟨_,_,rfl,h1,_,_,rfl,h2,rfl⟩:=ty_flds f133 h
 obtain⟨s,rfl,_⟩:=ty_str u9 h1
 obtain⟨v,rfl,hv⟩:=s105 h2
 exact hv
theorem s22{xs:List AV}(h:Ty Tryz.prog 22 xs):∃v,xs=[v]/\isRs v=true:=ty_rows u22 c133 r133 h
theorem s28{xs:List AV}(h:Ty Tryz.prog 28 xs):∃v,xs=[v]/\isI v=true/\notOwn v=true:=by
 obtain⟨v,rfl,hv,_⟩:=ty_I u28 u3 c3 h
 exact⟨v,rfl,hv,ty_no u28 h⟩
theorem s69{xs:List AV}(h:TyTs Tryz.prog [3,3,3,3,3,28] xs):∃i:ID,xs=i.cells/\idRow xs=true:=by
 obtain⟨_,_,rfl,h1,_,_,rfl,h2,_,_,rfl,h3,_,_,rfl,h4,_,_,rfl,h5,_,_,rfl,h6,rfl⟩:=h
 obtain⟨a,rfl,ha⟩:=ty_i h1
 obtain⟨b,rfl,hb⟩:=ty_i h2
 obtain⟨c,rfl,hc⟩:=ty_i h3
 obtain⟨d,rfl,hd⟩:=ty_i h4
 obtain⟨e,rfl,he⟩:=ty_i h5
 obtain⟨v,rfl,hv,hv2⟩:=s28 h6
 exact⟨⟨a,b,c,d,e,v⟩,rfl,by simp[idRow,ha,hb,hc,hd,he,hv,hv2]⟩
theorem r69(xs:List AV)(h:Ty Tryz.prog 69 xs):idRow xs=true:=by
 obtain⟨_,_,h2⟩:=s69 (ty_flds f69 h)
 exact h2
theorem s53{xs:List AV}(h:Ty Tryz.prog 53 xs):∃v,xs=[v]/\isNs v=true:=ty_rows u53 c69 r69 h
theorem r55(xs:List AV)(h:Ty Tryz.prog 55 xs):cdRow xs=true:=by
 obtain⟨_,_,rfl,h1,_,_,rfl,h2,_,_,rfl,h3,_,_,rfl,h4,_,_,rfl,h5,rfl⟩:=ty_flds f55 h
 obtain⟨a,rfl,ha⟩:=ty_i h1
 obtain⟨v,rfl,hv⟩:=s23 h2
 obtain⟨b,rfl⟩:=ty_bool u4 h3
 obtain⟨p,q,r,rfl,hp,hq,hr⟩:=s52 h4
 obtain⟨w,rfl,hw⟩:=s53 h5
 simp[cdRow,ha,hv,hp,hq,hr,hw]
theorem s24{xs:List AV}(h:Ty Tryz.prog 24 xs):∃v,xs=[v]/\isCs v=true:=ty_rows u24 c55 r55 h
theorem ty27{a:AV}(h:TyV Tryz.prog 27 a):∃x:XD,a=.agg x.cells/\x.ok:=by
 obtain⟨xs,rfl,_,_,rfl,h1,_,_,rfl,h2,_,_,rfl,h3,_,_,rfl,h4,_,_,rfl,h5,rfl⟩:=tyV_flds f27 h
 obtain⟨v1,rfl,k1⟩:=s22 h1
 obtain⟨v2,rfl,k2⟩:=s23 h2
 obtain⟨v3,rfl,k3⟩:=s24 h3
 obtain⟨v4,rfl,k4⟩:=s25 h4
 obtain⟨m,rfl,_⟩:=ty_i h5
 exact⟨⟨v1,v2,v3,v4,m⟩,rfl,⟨k1,k2,k3,k4⟩⟩
theorem ty3{a:AV}(h:TyV Tryz.prog 3 a):∃n,a=.int .i64 n/\inR n=true:=by
 obtain⟨n,e,hn⟩:=ty_i (tyV_one (fun fs h=>by rw[u3]at h;cases h) h)
 cases e
 exact⟨n,rfl,hn⟩
end Go.Proofs.YtgblgbgjmgjfkaaGreat
