/- The library of this proof, part 2: an abstract interpreter of the loaded code, and its soundness. -/
import Derived.Test.YtachcambnjecnaaGreatA1
import Derived.Laws.Tables
import Derived.Laws.Cells
import Derived.Laws.CopyRow
import Derived.Great.BuildSlice
import Derived.Laws.MakeOwn
import Derived.Carry
import Derived.Deep.Upon

namespace Ax
open Go
variable {P:Program}{w:World}{G:aM}{β:List k8}{ρ:Operand->Value}{o:Oper}
theorem IW {c:Call}{x:Operand}(h:c.args.toList=[x]):c.args = #[x]:=by
 have:=congrArg List.toArray h;simpa using this
theorem mL {c:Call}{x y:Operand}(h:c.args.toList=[x,y]):c.args = #[x,y]:=by
 have:=congrArg List.toArray h;simpa using this
theorem abi {c:Call}(ho:o.op=.call c)(hc:c.callee=.builtin .max){x y:Operand}(hx:c.args.toList=[x,y]){k:IntKind}{a b:Int}
  (ha:aN w G (.int k a) (ρ x)) (hb:aN w G (.int k b) (ρ y)):(execOp ρ o).run P w=.ok (.value (.int k (if b > a then b else a))) w:=by
 simp only[execOp,ho,resolve,hc,Sem.run_bind,Sem.run_pure,Result.andThen_ok,invoke,builtin,mL hx]
 simp[Builtin.max_,Builtin.max2,ha.eZ,hb.eZ]
theorem abj {c:Call}(ho:o.op=.call c)(hc:c.callee=.builtin .min){x y:Operand}(hx:c.args.toList=[x,y]){k:IntKind}{a b:Int}
  (ha:aN w G (.int k a) (ρ x)) (hb:aN w G (.int k b) (ρ y)):(execOp ρ o).run P w=.ok (.value (.int k (if b<a then b else a))) w:=by
 simp only[execOp,ho,resolve,hc,Sem.run_bind,Sem.run_pure,Result.andThen_ok,invoke,builtin,mL hx]
 simp[Builtin.min_,Builtin.min2,ha.eZ,hb.eZ]
theorem wg {x:Operand}(ho:o.op=.nilCheck x){a:Addr}(hx:ρ x=.pointer (some a)):(execOp ρ o).run P w=.ok (.value (ρ x)) w:=by
 simp only[execOp,ho,hx];rfl
theorem LW {x:Operand}{i:Nat}(ho:o.op=.extract x i){vs:List AV}{v:AV}(hv:vs[i]?=some v)(ha:aN w G (.fz vs) (ρ x)) :
  ∃u,(execOp ρ o).run P w=.ok (.value u) w/\aN w G v u/\∀b,eP b v u<=eP b (.fz vs) (ρ x):=by
 generalize hx:ρ x=xv at ha
 cases ha with
 |fz _ us hl hh=>
  have hi:i<vs.length:=(List.getElem?_eq_some_iff.1 hv).1
  have oM:i<us.size:=by omega
  refine⟨us[i],?_,hh i v us[i] hv (by simp[oM]),λb=>?_⟩
  ·simp only[execOp,ho,hx]
   simp[Instr.extract,oM]
  ·simp only[eP]
   exact tD b vs us.toList i v us[i] hv (by simp[oM])
theorem o5 {cs r:List AV}{k n:Nat}(h:cut cs k n=some r):r=(cs.drop k).take n/\k+n<=cs.length/\r.length=n:=by
 unfold cut at h
 split at h
 ·cases h;exact⟨rfl,by assumption,by simp;omega⟩
 ·cases h
theorem wh {t:TypeId}{b:Bool}(h:lV P t=some b)(w:World):(isAgg t).run P w=.ok b w:=by
 unfold lV at h
 split at h
 ·rename_i hu;cases h;simp[isAgg,run_underlying hu]
 ·rename_i hu;cases h;simp[isAgg,run_underlying hu]
 ·rename_i d h1 h2 hu
  cases h
  cases d<;>simp_all [isAgg,run_underlying hu]
 ·cases h
theorem z7 {agg:Bool}{r:List AV}{v:AV}(h:bZ agg r=some v){xs:List Value}(hx:b8 w G r xs) :
  ∃u,(if agg then .agg xs.toArray else xs.headD undef)=u/\aN w G v u/\(∀b,eP b v u=bR b r xs)/\(agg=false->∃c x,r=[c]/\xs=[x]/\v=c/\u=x):=by
 refine⟨_,rfl,?_⟩
 unfold bZ at h
 cases agg with
 |true=>
  simp only[if_true,Option.some.injEq]at h
  subst h
  refine⟨.agg _ _ (by simpa using hx.1) λi c v hc hv=>hx.2 i c v hc (by simpa using hv),λb=>by simp[eP],by simp⟩
 |false=>
  simp only[Bool.false_eq_true,if_false]at h
  split at h
  ·rename_i c
   cases h
   match xs,hx with
   |[x],hx=>exact⟨hx.2 0 v x rfl rfl,λb=>by simp[bR],λ_=>⟨v,x,rfl,rfl,rfl,rfl⟩⟩
   |[],hx=>simp[b8]at hx
   |_::_::_,hx=>simp[b8]at hx
  ·cases h
theorem SR (vs:Array Value)(off n:Nat):vs.extract off (off+n)=((vs.toList.drop off).take n).toArray:=by
 apply Array.ext'
 simp[Array.toList_extract,List.extract]
theorem SU {t:TypeId}{x:Operand}{f:Nat}(ho:o.op=.field t x f){fs:Array Field}{fd:Field}(hu:P.underlying t=some (.struct fs))(hf:fs[f]?=some fd){off n:Nat}{agg:Bool}
  (abk:fd.offset=off) (hn:ck P fd.type n=true) (qw:lV P fd.type=some agg) {cs r:List AV} {v:AV} (hc:cut cs off n=some r) (hv:bZ agg r=some v)
  (ha:aN w G (.agg cs) (ρ x)):∃u,(execOp ρ o).run P w=.ok (.value u) w/\aN w G v u/\∀b,eP b v u<=eP b (.agg cs) (ρ x):=by
 generalize hx:ρ x=xv at ha
 cases ha with
 |agg _ vs hl hh=>
  obtain⟨rfl,hle,hlen⟩:=o5 hc
  have hC:b8 w G cs vs.toList:=⟨by simpa using hl,λi c v h1 h2=>hh i c v h1 (by simpa using h2)⟩
  have hR:=(hC.drop off).take n
  obtain⟨u,hu',h1,h2,h3⟩:=z7 hv hR
  refine⟨u,?_,h1,λb=>?_⟩
  ·simp only[execOp,ho,hx]
   simp only[Instr.field,Sem.run_bind,run_underlying hu,Result.andThen_ok,hf,asAgg,Sem.run_pure,part,wh qw,abk]
   cases agg with
   |true=>
    simp only[if_true]at hu'
    subst hu'
    simp[dG hn,SR]
   |false=>
    obtain⟨c,y,e1,e2,e3,e4⟩:=h3 rfl
    have hy:vs[off]?=some y:=by
     have:=congrArg (·[0]?) e2
     simp only[List.getElem?_take,List.getElem?_drop]at this
     split at this
     ·simpa using this
     ·simp at this
    simp[hy,e4]
  ·rw[h2]
   simp only[eP]
   have a1:=LU b n (cs.drop off) (vs.toList.drop off) (by simp;omega)
   have a2:=uI b off cs vs.toList (by simpa using hl)
   omega
theorem Ek {place:Nat->Option (Nat×Nat)}:∀(ps:List (Nat×Value))(qs:List (Nat×Nat))(vs:List AV)(zero cs:List AV)(zc:Array Value),gO zero qs vs=some cs->b8 w G zero zc.toList->
  b8 w G vs (ps.map (·.2))->(∀(i:Nat) p q,ps[i]?=some p->qs[i]?=some q->place p.1=some q)->
  ∃cells,Instr.fill place zc ps=some cells/\b8 w G cs cells.toList/\∀b,bR b cs cells.toList<=bR b zero zc.toList+bR b vs (ps.map (·.2))
 |[],qs,vs,zero,cs,zc,h,hz,hv,hp=>by
  cases vs with
  |nil=>
   cases qs with
   |nil=>simp[gO]at h;subst h;exact⟨zc,rfl,hz,λb=>by omega⟩
   |cons q qs=>simp[gO]at h
  |cons v vs=>simp[b8]at hv
 |p::ps,qs,vs,zero,cs,zc,h,hz,hv,hp=>by
  cases vs with
  |nil=>simp[b8]at hv
  |cons v vs=>
   cases qs with
   |nil=>simp[gO]at h
   |cons q qs=>
    obtain⟨off,n⟩:=q
    simp only[gO]at h
    split at h
    ·rename_i hc
     simp only[Bool.and_eq_true,decide_eq_true_eq]at hc
     obtain⟨SW,abk⟩:=hc
     have LX:=hp 0 p (off,n) rfl rfl
     have WL:aN w G v p.2:=hv.2 0 v p.2 rfl rfl
     obtain⟨NX,CJ⟩:=WL.cells
     have dZ:p.2.cells.size=n:=by have:=NX.1;simp at this;omega
     have NY:zc.size=zero.length:=by have:=hz.1;simp at this;omega
     have LY:=IV off p.2.cells.toList zc (by simp;omega)
     have zF:b8 w G (af zero off v.cells) (af zc.toList off p.2.cells.toList):=hz.af NX (by omega)
     have CI:b8 w G vs (ps.map (·.2)):=⟨by have:=hv.1;simpa using this,λi c x h1 h2=>hv.2 (i+1) c x (by simpa using h1) (by simpa using h2)⟩
     have step:Instr.fill place zc (p::ps)=Instr.fill place (p.2.cells.zipIdx.foldl (λcs (c,j)=>cs.setIfInBounds (off+j) c) zc) ps:=by
      obtain⟨pi,pv⟩:=p
      simp only[Instr.fill]
      rw[LX]
      simp only
      rw[if_neg (by simp at dZ ⊢;omega)]
     simp only[Array.toArray_toList]at LY
     obtain⟨cells,e1,e2,e3⟩:=Ek ps qs vs (af zero off v.cells) cs _ h (by rw[LY];exact zF) CI (λi p q h1 h2=>hp (i+1) p q (by simpa using h1) (by simpa using h2))
     refine⟨cells,step.trans e1,e2,λb=>?_⟩
     have h3:=e3 b
     rw[LY]at h3
     have h4:=o0 b zero v.cells zc.toList p.2.cells.toList off hz.1 NX.1 (by omega)
     have h5:=CJ b
     simp only[List.map_cons,bR]
     omega
    ·cases h
theorem yS {fs:Array Field}:∀{ps:List (Nat×Operand)}{qs:List (Nat×Nat)},oZ P fs ps qs=true->ps.length=qs.length/\
  ∀(i:Nat) p q,ps[i]?=some p->qs[i]?=some q->∃f,fs[p.1]?=some f/\f.offset=q.1/\ck P f.type q.2=true
 |[],[],_=>⟨rfl,λi p q h _=>by simp at h⟩
 |(j,x)::ps,(off,n)::qs,h=>by
  simp only[oZ,Bool.and_eq_true]at h
  obtain⟨h1,h2⟩:=h
  obtain⟨e1,e2⟩:=yS h2
  refine⟨by simp[e1],λi p q hp hq=>?_⟩
  cases i with
  |zero=>
   simp at hp hq
   subst hp;subst hq
   split at h1
   ·rename_i f hf
    simp only[Bool.and_eq_true,beq_iff_eq]at h1
    exact⟨f,hf,h1.1,h1.2⟩
   ·cases h1
  |succ i=>exact e2 i p q (by simpa using hp) (by simpa using hq)
 |[],_::_,h=>by simp[oZ]at h
 |_::_,[],h=>by simp[oZ]at h
theorem kB {t:TypeId}{zero:List AV}(h:mK P t zero=true)(w:World)(G:aM) :
  ∃i z,P.info? t=some i/\i.zero=some z/\b8 w G zero z.cells.toList/\(∀c∈zero,c.bX=true/\c.au=true)/\AV.aK zero=true:=by
 unfold mK at h
 split at h
 ·rename_i i hi
  split at h
  ·rename_i z hz
   simp only[Bool.and_eq_true]at h
   obtain⟨e1,e2,e3⟩:=wQ w G h.1
   exact⟨i,z,hi,hz,⟨e1,e2⟩,e3,h.2⟩
  ·cases h
 ·cases h
theorem SX {t:TypeId}{parts:Array (Nat×Operand)}(ho:o.op=.build t parts){fs:Array Field}(hu:P.underlying t=some (.struct fs)){is:List TypeInfo}(CL:fs.toList.mapM (λf=>P.info? f.type)=some is)
  {zero:List AV} {qs:List (Nat×Nat)} (hz:mK P t zero=true) (hp:oZ P fs parts.toList qs=true) {vs cs:List AV} (hc:gO zero qs vs=some cs)
  (hv:b8 w G vs (parts.toList.map λp=>ρ p.2)):∃u,(execOp ρ o).run P w=.ok (.value u) w/\aN w G (.agg cs) u/\∀b,eP b (.agg cs) u<=bR b vs (parts.toList.map λp=>ρ p.2):=by
 obtain⟨i,z,hi,NZ,mC,Ge,_⟩:=kB hz w G
 obtain⟨LX,hpp⟩:=yS hp
 have SY:fs.toList.mapM (λf=>(P.info? f.type).map λi=>(f.offset,i.size))=some (List.zipWith (λf i=>(f.offset,i.size)) fs.toList is)/\fs.toList.length=is.length/\∀(k:Nat) f j,fs.toList[k]?=some f->is[k]?=some j->P.info? f.type=some j:=by
  generalize fs.toList=l at CL
  induction l generalizing is with
  |nil=>simp at CL;subst CL;exact⟨rfl,rfl,λk f j h _=>by simp at h⟩
  |cons f l ih=>
   rw[List.mapM_cons]at CL
   simp only[bind,Option.bind_eq_some_iff,pure,Option.some.injEq]at CL
   obtain⟨j,hj,is',afP,rfl⟩:=CL
   obtain⟨a1,a2,a3⟩:=ih afP
   refine⟨?_,by simp[a2],λk g j' h1 h2=>?_⟩
   ·rw[List.mapM_cons,a1];simp[hj]
   ·cases k with
    |zero=>simp at h1 h2;subst h1;subst h2;exact hj
    |succ k=>simp at h1 h2;exact a3 k g j' h1 h2
 obtain⟨hm,hlen,afQ⟩:=SY
 have El:(parts.map λ(x:Nat×Operand)=>(x.1,ρ x.2)).toList.map (·.2)=parts.toList.map λp=>ρ p.2:=by simp[Function.comp_def]
 obtain⟨cells,e1,e2,e3⟩:=Ek (place:=((List.zipWith (λ(f:Field) (i:TypeInfo)=>(f.offset,i.size)) fs.toList is).toArray[·]?)) (parts.map λ(x:Nat×Operand)=>(x.1,ρ x.2)).toList qs vs zero cs z.cells hc mC
  (by rw[El];exact hv) (by
   intro k p q h1 h2
   simp only[Array.toList_map,List.getElem?_map,Option.map_eq_some_iff]at h1
   obtain⟨p',h1,rfl⟩:=h1
   obtain⟨f,g1,g2,g3⟩:=hpp k p' q h1 h2
   obtain⟨j,g4,g5,_⟩:=j7 g3
   have hf:fs.toList[p'.1]?=some f:=by simpa using g1
   have hj:is[p'.1]?=some j:=by
    have aV:p'.1<is.length:=by rw[<-hlen];exact(List.getElem?_eq_some_iff.1 hf).1
    have:=afQ p'.1 f is[p'.1] hf (List.getElem?_eq_getElem aV)
    rw[g4]at this
    cases this
    exact List.getElem?_eq_getElem aV
   simp[List.getElem?_zipWith,hf,hj,g2,g5])
 have hb:P.built t (parts.map λ(x:Nat×Operand)=>(x.1,ρ x.2)).toList=some cells:=by
  unfold Program.built
  rw[hi,hu]
  simp only[NZ,hm]
  exact e1
 refine⟨.agg cells,?_,.agg _ _ (by simpa using e2.1) λi c v h1 h2=>e2.2 i c v h1 (by simpa using h2),λb=>?_⟩
 ·simp only[execOp,ho,Sem.run_bind]
  have:=run_build w t (parts.map λ(x:Nat×Operand)=>(x.1,ρ x.2)) cells hb
  simp only[this,Result.andThen_ok,Sem.run_pure]
 ·have h1:=e3 b
  have h2:bR b zero z.cells.toList=0:=cW b _ _ ((cm zero).2 λc hc=>(Ge c hc).1)
  rw[El]at h1
  simp only[eP]
  omega
end Ax
namespace Ax
open Go
variable {P:Program}{w:World}{G:aM}{β:List k8}{ρ:Operand->Value}{o:Oper}
theorem j9 (b off n:Nat):(⟨b,off,none⟩:Addr).add n=⟨b,off+n,none⟩:=by
 unfold Addr.add;split<;>simp_all
theorem Gf {t:TypeId}{f:Nat}{fs:Array Field}{fd:Field}{i:TypeInfo}(hu:P.underlying t=some (.struct fs))(hf:fs[f]?=some fd)(hi:P.info? fd.type=some i)(hs:i.size≠0)(a:Addr)(w:World) :
  (Instr.fieldAt t (.pointer (some a)) f).run P w=.ok (.pointer (some (a.add fd.offset))) w:=by
 have hc:P.cellsOf fd.type≠0:=by simp[Program.cellsOf,hi,hs]
 simp[Instr.fieldAt,run_underlying hu,hf,Instr.sureAddr,fieldPlace,run_sizeOf w hi,hc]
theorem tF {t:TypeId}{x:Operand}{f:Nat}(ho:o.op=.fieldAddr t x f){fs:Array Field}{fd:Field}{i:TypeInfo}(hu:P.underlying t=some (.struct fs))(hf:fs[f]?=some fd)(hi:P.info? fd.type=some i)(hs:i.size≠0)
  {a:Addr} (hx:ρ x=.pointer (some a)):(execOp ρ o).run P w=.ok (.value (.pointer (some (a.add fd.offset)))) w:=by
 simp only[execOp,ho,hx,Sem.run_bind,Gf hu hf hi hs,Result.andThen_ok,Sem.run_pure]
theorem vI {p:AV}{v:Value}{off:Nat}{q:AV}(h:aN w G p v)
  (hq:(∃id bU i k,p=.ptr id bU i k/\q=.ptr id bU i (k+off))\/(∃sz rows i k,p=.n8 sz rows i k/\q=.n8 sz rows i (k+off))) :
  ∃a,v=.pointer (some a)/\aN w G q (.pointer (some (a.add off))):=by
 rcases hq with⟨id,bU,i,k,rfl,rfl⟩|⟨sz,rows,i,k,rfl,rfl⟩
 ·cases h with
  |ptr _ _ _ _ _ loc hp hl hv he=>
   obtain⟨a,rfl⟩:=hp
   refine⟨a,rfl,.ptr _ _ _ _ _ loc ⟨_,rfl⟩ hl hv λe=>?_⟩
   obtain⟨a',h1,h2⟩:=he e
   cases h2
   exact⟨a',h1,by rw[j9];congr 3;omega⟩
 ·cases h with
  |n8 _ _ _ _ a cap hs=>
   refine⟨_,rfl,?_⟩
   rw[j9]
   have:=aN.n8 (w:=w) (G:=G) sz rows i (k+off) a cap hs
   rw[show a.off+(i*sz+k)+off=a.off+(i*sz+(k+off)) by omega]
   exact this
theorem yT {t e:TypeId}{sz:Nat}(hu:P.underlying t=some (.slice e))(dZ:ck P e sz=true){a:Addr}{len cap:Nat}{i:Int}(h0:0<=i)(h1:i<len)(w:World) :
  (Instr.indexAt t (.slice (some a) len cap) (.int .i64 i)).run P w=.ok (.pointer (some (a.add (i.toNat*sz)))) w:=by
 simp[Instr.indexAt,run_underlying hu,asIntOf,dG dZ,h0,h1]
theorem Gg {t e:TypeId}{x y:Operand}{sz:Nat}(ho:o.op=.indexAddr t x y)(hu:P.underlying t=some (.slice e))(dZ:ck P e sz=true){st:an}(hI:Inv w G st){a:AV}{i:Int}{bx eR:aX}{bP:an}{r:dX}
  (h:aL 0 0 (.indexAddr sz) [.val a,.val (.int .i64 i)] st bx=some (r,bP,eR)) (ha:aN w G a (ρ x)) (hy:ρ y=.int .i64 i) :
  bP=st/\eR=bx/\∃p u,r=.val p/\(execOp ρ o).run P w=.ok (.value u) w/\aN w G p u/\p.bX=true:=by
 have pure:∀(s:Nat) (rows:List (List AV)) (v:Value),aN w G (.cU s rows) v->ρ x=v->s=sz->0<=i->i<rows.length->
   ∃u,(execOp ρ o).run P w=.ok (.value u) w/\aN w G (.n8 sz rows i.toNat 0) u:=by
  intro s rows v hv Gd hs h0 h1
  subst hs
  have CH:=hv
  cases hv with
  |cU _ _ a cap ot eS=>
   refine⟨_,?_,.n8 _ rows i.toNat 0 a cap CH⟩
   simp only[execOp,ho,Gd,hy,Sem.run_bind,yT hu dZ h0 (by exact_mod_cast h1),Result.andThen_ok,Sem.run_pure]
   obtain⟨b,off,spot⟩:=a
   simp only at ot
   subst ot
   rw[j9]
   simp
 simp only[aL]at h
 split at h<;>try (cases h;done)
 ·rename_i s rows
  split at h
  ·rename_i hc
   cases h
   simp only[Bool.and_eq_true,decide_eq_true_eq]at hc
   obtain⟨u,h1,h2⟩:=pure s rows _ ha rfl hc.1.1 hc.1.2 hc.2
   exact⟨rfl,rfl,_,u,rfl,h1,h2,rfl⟩
  ·cases h
 ·rename_i s rows
  split at h
  ·rename_i hc
   cases h
   simp only[Bool.and_eq_true,decide_eq_true_eq]at hc
   obtain⟨u,h1,h2⟩:=pure s rows _ ha.view rfl hc.1.1 hc.1.2 hc.2
   exact⟨rfl,rfl,_,u,rfl,h1,h2,rfl⟩
  ·cases h
 ·rename_i id bU
  split at h
  ·rename_i v s rows fm
   split at h
   ·rename_i hc
    cases h
    simp only[Bool.and_eq_true,decide_eq_true_eq]at hc
    obtain⟨⟨⟨En,hs⟩,h0⟩,h1⟩:=hc
    subst En;subst hs
    obtain⟨loc,hl,SO⟩:=hI.loc fm
    obtain⟨yU,yV,gi⟩:=SO
    generalize Gd:ρ x=xv at ha
    cases ha with
    |mu _ _ _ loc' hp nR hv he=>
     rw[hl]at nR;cases nR
     have hx:=he yV.symm
     rcases gi.nS with⟨_,qx,_⟩|⟨b,off,c,e',qJ,eS,eH,hle,hlen,gx,dh⟩
     ·subst qx;simp at h1;omega
     ·rw[qJ,gi.len]at hx
      refine⟨rfl,rfl,_,_,rfl,?_,.ptr id v i.toNat 0 _ loc ⟨_,rfl⟩ hl (by omega) λ_=>⟨_,qJ,rfl⟩,rfl⟩
      simp only[execOp,ho,Gd,hx,hy,Sem.run_bind,yT hu dZ h0 h1,Result.andThen_ok,Sem.run_pure]
      rw[j9,gi.size]
      simp
   ·cases h
  ·cases h
theorem SZ {t:TypeId}{x y:Operand}(ho:o.op=.index t x y)(hu:P.underlying t=some .string){s:List UInt8}{i:Int}{b:UInt8}(h0:0<=i)(hb:s[i.toNat]?=some b)(ha:aN w G (.str s) (ρ x))(hy:ρ y=.int .i64 i) :
  (execOp ρ o).run P w=.ok (.value (.int .u8 b.toNat)) w:=by
 obtain⟨s',hx,rfl⟩:=ha.k5
 have lO:s'[i.toNat]?=some b:=by
  have aV:i.toNat<s'.size:=by have:=(List.getElem?_eq_some_iff.1 hb).1;simpa using this
  have hd:s'.data[i.toNat]?=some b:=by simpa using hb
  have e:s'[i.toNat]?=s'.data[i.toNat]?:=rfl
  rw[e];exact hd
 simp only[execOp,ho,hx,hy,Sem.run_bind]
 simp[Instr.index,run_underlying hu,asIntOf,h0,lO]
theorem Gh {st:an}(hI:Inv w G st){p:AV}{v:Value}{n:Nat}{cs:List AV}(hr:fN st p n=some cs)(hp:aN w G p v) :
  ∃b off xs,v=.pointer (some ⟨b,off,none⟩)/\xs.length=n/\b8 w G cs xs/\∀(j:Nat) x,xs[j]?=some x->w.cell? ⟨b,off+j,none⟩=some x:=by
 have build:∀(r:List AV) (k b off:Nat),cut r k n=some cs->(∀(j:Nat) c,r[j]?=some c->∃x,w.cell? ⟨b,off+j,none⟩=some x/\aN w G c x)->
   ∃xs:List Value,xs.length=n/\b8 w G cs xs/\∀(j:Nat) x,xs[j]?=some x->w.cell? ⟨b,off+k+j,none⟩=some x:=by
  intro r k b off hc mG
  obtain⟨rfl,hle,hlen⟩:=o5 hc
  refine⟨(List.range n).map λj=>(w.cell? ⟨b,off+k+j,none⟩).getD undef,by simp,⟨by simp;omega,λj c x h1 h2=>?_⟩,λj x h=>?_⟩
  ·rw[List.getElem?_take]at h1
   split at h1
   ·rw[List.getElem?_drop]at h1
    obtain⟨y,e1,e2⟩:=mG _ c h1
    simp only[List.getElem?_map,Option.map_eq_some_iff]at h2
    obtain⟨j',h3,rfl⟩:=h2
    have:j'=j:=by
     rw[List.getElem?_range (by assumption)]at h3;simpa using h3.symm
    subst this
    rw[show off+k+j'=off+(k+j') by omega,e1]
    exact e2
   ·cases h1
  ·simp only[List.getElem?_map,Option.map_eq_some_iff]at h
   obtain⟨j',h3,rfl⟩:=h
   have hj:j<n:=by
    have:=(List.getElem?_eq_some_iff.1 h3).1;simpa using this
   have:j'=j:=by
    rw[List.getElem?_range hj]at h3;simpa using h3.symm
   subst this
   have aV:k+j'<r.length:=by omega
   obtain⟨y,e1,e2⟩:=mG (k+j') r[k+j'] (List.getElem?_eq_getElem aV)
   rw[show off+k+j'=off+(k+j') by omega,e1]
   rfl
 unfold fN at hr
 split at hr
 ·rename_i id bU i k
  split at hr
  ·rename_i ve sz rows fm
   split at hr
   ·rename_i En
    subst En
    split at hr
    ·rename_i r cR
     obtain⟨loc,hl,yU,yV,gi⟩:=hI.loc fm
     cases hp with
     |ptr _ _ _ _ _ loc' hpp nR hv he=>
      rw[hl]at nR;cases nR
      obtain⟨a,qJ,rfl⟩:=he yV.symm
      rcases gi.nS with⟨_,qx,_⟩|⟨b,off,c,e',IX,eS,eH,hle,hlen,gx,dh⟩
      ·subst qx;simp at cR
      ·rw[IX]at qJ;cases qJ
       obtain⟨xs,h1,h2,h3⟩:=build r k b (off+i*sz) hr (λj c hc=>by
        obtain⟨x,e1,e2⟩:=gi.cell dh i r j c cR hc
        exact⟨x,by rw[show off+i*sz+j=off+(i*sz+j) by omega];exact e1,e2⟩)
       refine⟨b,off+(i*sz+k),xs,by rw[gi.size],h1,h2,λj x hx=>?_⟩
       rw[show off+(i*sz+k)+j=off+i*sz+k+j by omega]
       exact h3 j x hx
    ·cases hr
   ·cases hr
  ·cases hr
 ·rename_i sz rows i k
  split at hr
  ·rename_i r cR
   cases hp with
   |n8 _ _ _ _ a cap hs=>
    cases hs with
    |cU _ _ _ _ ot eS bn iY nA uD hc wT=>
     obtain⟨xs,h1,h2,h3⟩:=build r k a.block (a.off+i*sz) hr (λj c Sk=>by
      obtain⟨_,x,e1⟩:=hc i r j c cR Sk
      exact⟨x,by rw[show a.off+i*sz+j=a.off+(i*sz+j) by omega];exact e1,wT i r j c x cR Sk e1⟩)
     refine⟨a.block,a.off+(i*sz+k),xs,rfl,h1,h2,λj x hx=>?_⟩
     rw[show a.off+(i*sz+k)+j=a.off+i*sz+k+j by omega]
     exact h3 j x hx
  ·cases hr
 ·cases hr
theorem AQ {t:TypeId}{n:Nat}{agg:Bool}(hn:ck P t n=true)(qw:lV P t=some agg){b off:Nat}{xs:List Value}(hlen:xs.length=n)(kP:agg=false->n=1)
  (hc:∀(j:Nat) x,xs[j]?=some x->w.cell? ⟨b,off+j,none⟩=some x) :
  (Instr.loadAt t (.pointer (some ⟨b,off,none⟩))).run P w=.ok (if agg then .agg xs.toArray else xs.headD undef) w:=by
 cases agg with
 |true=>
  have:=run_loadCells_list (P:=P) w ⟨b,off,none⟩ xs (λj v h=>by rw[j9];exact hc j v h)
  rw[hlen]at this
  simp[Instr.loadAt,Instr.sureAddr,loadVar,wh qw,dG hn,this]
 |false=>
  match xs,hlen,kP rfl with
  |[x],_,_=>
   have:=hc 0 x rfl
   simp only[Nat.add_zero]at this
   simp[Instr.loadAt,Instr.sureAddr,loadVar,wh qw,this]
  |[],h,h1=>simp at h;omega
  |_::_::_,h,h1=>simp at h;omega
theorem b8.view {as:List AV}{xs:List Value}(h:b8 w G as xs):b8 w G (AV.cz as) xs:=by
 refine⟨by rw[lU];exact h.1,λi c v hc hv=>?_⟩
 rw[uE]at hc
 simp only[Option.map_eq_some_iff]at hc
 obtain⟨c',h1,rfl⟩:=hc
 exact(h.2 i c' v h1 hv).view
theorem Eo {t:TypeId}{x:Operand}{n:Nat}{agg:Bool}(ho:o.op=.load t x)(hn:ck P t n=true)(qw:lV P t=some agg)(kP:agg=false->n=1){b off:Nat}{xs:List Value}{cs:List AV}{v:AV}
  (hx:ρ x=.pointer (some ⟨b,off,none⟩)) (hlen:xs.length=n) (hC:b8 w G cs xs) (hc:∀(j:Nat) y,xs[j]?=some y->w.cell? ⟨b,off+j,none⟩=some y) (hv:bZ agg cs=some v) :
  ∃u,(execOp ρ o).run P w=.ok (.value u) w/\aN w G v u/\∀d,eP d v u=bR d cs xs:=by
 obtain⟨u,hu,h1,h2,_⟩:=z7 hv hC
 refine⟨u,?_,h1,h2⟩
 simp only[execOp,ho,hx,Sem.run_bind,AQ hn qw hlen kP hc,Result.andThen_ok,Sem.run_pure,hu]
theorem IY {f:FuncId}{first j3:Array Operand}(hf:f<100000)(ho:o.op=.makeFunc (.func f) first j3){vs:List AV}(hv:b8 w G vs ((first.toList++j3.toList).map ρ)) :
  (execOp ρ o).run P w=.ok (.value (.func (.func f) (first.map ρ) (j3.map ρ))) w/\
   aN w G (.fn f (AV.cz (vs.take first.size)) (AV.cz (vs.drop first.size))) (.func (.func f) (first.map ρ) (j3.map ρ)):=by
 refine⟨by simp only[execOp,ho,Sem.run_bind];rfl,?_⟩
 have h1:=(hv.take first.size).view
 have h2:=(hv.drop first.size).view
 rw[List.map_append]at h1 h2
 rw[List.take_left' (by simp)]at h1
 rw[List.drop_left' (by simp)]at h2
 refine .fn f _ _ _ _ (by simpa using h1.1) (by simpa using h2.1) ⟨fJ _,fJ _,hf⟩ (λi c v e1 e2=>h1.2 i c v e1 ?_) (λi c v e1 e2=>h2.2 i c v e1 ?_)
 ·simpa using e2
 ·simpa using e2
end Ax
namespace Ax
open Go
variable {P:Program}{w:World}{G:aM}{β:List k8}{ρ:Operand->Value}{o:Oper}
def wj (ρ:Operand->Value)(x:Option Operand)(WJ a:Int):Prop:=(x=none/\a=WJ)\/∃y,x=some y/\ρ y=.int .i64 a
theorem lW {i:Int}{y:Nat}{c:BoundsCode}(h0:0<=i)(h1:i<=y)(w:World):(Instr.sliceBound (.int .i64 i) y c).run P w=.ok i.toNat w:=by
 simp[Instr.sliceBound,asIntOf,h0,h1]
theorem jG {tr:Bool}{len cap:Nat}{lo hi:Option Operand}{a b:Int}(ha:wj ρ lo 0 a)(hb:wj ρ hi len b)(h0:0<=a)(h1:a<=b)(h2:b<=cap)(w:World) :
  (Instr.sliceBounds tr len cap (lo.map ρ) (hi.map ρ) none).run P w=.ok (a.toNat,b.toNat,cap) w:=by
 rcases ha with⟨rfl,rfl⟩|⟨y,rfl,hy⟩<;>rcases hb with⟨rfl,rfl⟩|⟨z,rfl,hz⟩
 ·simp[Instr.sliceBounds]
 ·simp[Instr.sliceBounds,hz,lW (by omega:(0:Int)<=b) h2]
 ·simp[Instr.sliceBounds,hy,lW h0 h1]
 ·have hbn:((b.toNat:Nat):Int)=b:=by omega
  simp[Instr.sliceBounds,hy,hz,lW (by omega:(0:Int)<=b) h2,lW h0 (by rw[hbn];exact h1)]
theorem IZ {t:TypeId}{x:Operand}{lo hi:Option Operand}(ho:o.op=.slice t x lo hi none)(hu:P.underlying t=some .string){s:List UInt8}{a b:Int}(hx:aN w G (.str s) (ρ x))
  (ha:wj ρ lo 0 a) (hb:wj ρ hi s.length b) (h0:0<=a) (h1:a<=b) (h2:b<=s.length) :
  ∃u,(execOp ρ o).run P w=.ok (.value u) w/\aN w G (.str ((s.take b.toNat).drop a.toNat)) u:=by
 obtain⟨s',VD,rfl⟩:=hx.k5
 have hl:s'.data.toList.length=s'.size:=by simp
 rw[hl]at hb h2
 refine⟨.string (s'.extract a.toNat b.toNat),?_,.str _ _ ?_⟩
 ·simp only[execOp,ho,VD,Sem.run_bind]
  simp[Instr.sliceAt,Instr.slice,run_underlying hu,jG ha hb h0 h1 h2]
 ·rw[ByteArray.data_extract,Array.toList_extract]
  simp only[List.extract]
  rw[List.drop_take]
theorem LZ {sz:Nat}{rows:List (List AV)}(h:fits sz rows=true)(n m:Nat):fits sz ((rows.take n).drop m)=true:=by
 simp only[fits,List.all_eq_true]at h ⊢
 exact λr hr=>h r (List.mem_of_mem_take (List.mem_of_mem_drop hr))
theorem Ko {rows:List (List AV)}{n m i:Nat}{r:List AV}(h:((rows.take n).drop m)[i]?=some r):rows[m+i]?=some r:=by
 rw[List.getElem?_drop,List.getElem?_take]at h
 split at h
 ·exact h
 ·cases h
theorem S0 {sz:Nat}{rows:List (List AV)}{a:Addr}{len cap:Nat}(h:aN w G (.cU sz rows) (.slice (some a) len cap)){lo hi:Nat}(h1:lo<=hi)(h2:hi<=rows.length) :
  len=rows.length/\rows.length<=cap/\aN w G (.cU sz ((rows.take hi).drop lo)) (.slice (if cap=lo then some a else some (a.add (lo*sz))) (hi-lo) (cap-lo)):=by
 cases h with
 |cU _ _ _ _ ot eS bn iY nA uD hc hr=>
  refine⟨rfl,eS,?_⟩
  have hlen:((rows.take hi).drop lo).length=hi-lo:=by simp;omega
  have yf:∀r∈(rows.take hi).drop lo,r∈rows:=λr hr=>List.mem_of_mem_take (List.mem_of_mem_drop hr)
  have L0:a.add (lo*sz)=⟨a.block,a.off+lo*sz,none⟩:=by
   obtain⟨b,off,spot⟩:=a
   simp only at ot;subst ot
   exact j9 _ _ _
  split
  ·rename_i SW
   have:(rows.take hi).drop lo=[]:=by apply List.eq_nil_of_length_eq_zero;omega
   rw[this]
   have h0:hi-lo=([]:List (List AV)).length:=by simp;omega
   rw[h0]
   exact .cU _ _ a _ ot (by simp) (by simp[fits]) (by simp) (by simp) (by simp) (λi r j c h _=>by simp at h) (λi r j c v h _=>by simp at h)
  ·rw[<-hlen]
   refine .cU _ _ _ _ (by rw[L0]) (by omega) (LZ bn _ _) (λr h=>iY r (yf r h)) (λr h=>nA r (yf r h)) (λr h=>uD r (yf r h)) (λi r j c e1 e2=>?_) (λi r j c v e1 e2 e3=>?_)
   ·have:=hc _ r j c (Ko e1) e2
    rw[L0]
    simp only
    rw[show a.off+lo*sz+(i*sz+j)=a.off+((lo+i)*sz+j) by rw[Nat.add_mul];omega]
    exact this
   ·rw[L0]at e3
    simp only at e3
    rw[show a.off+lo*sz+(i*sz+j)=a.off+((lo+i)*sz+j) by rw[Nat.add_mul];omega]at e3
    exact hr _ r j c v (Ko e1) e2 e3
theorem AR {t e:TypeId}{x:Operand}{lo hi:Option Operand}(ho:o.op=.slice t x lo hi none)(hu:P.underlying t=some (.slice e)){sz:Nat}(dZ:ck P e sz=true){rows:List (List AV)}{a b:Int}(hx:aN w G (.cU sz rows) (ρ x))
  (ha:wj ρ lo 0 a) (hb:wj ρ hi rows.length b) (h0:0<=a) (h1:a<=b) (h2:b<=rows.length) :
  ∃u,(execOp ρ o).run P w=.ok (.value u) w/\aN w G (.cU sz ((rows.take b.toNat).drop a.toNat)) u:=by
 have hx0:=hx
 generalize Gd:ρ x=xv at hx
 have hs:∃ad len cap,xv=.slice (some ad) len cap:=by cases hx;exact⟨_,_,_,rfl⟩
 obtain⟨ad,len,cap,rfl⟩:=hs
 obtain⟨e1,e2,e3⟩:=S0 hx (lo:=a.toNat) (hi:=b.toNat) (by omega) (by omega)
 subst e1
 refine⟨_,?_,e3⟩
 simp only[execOp,ho,Gd,Sem.run_bind]
 simp only[Instr.sliceAt,Sem.run_bind,run_underlying hu,Result.andThen_ok,Instr.slice,Option.map_none,jG ha hb h0 h1 (by omega:b<=(cap:Int)),dG dZ,Sem.run_pure]
 by_cases hc:cap=a.toNat<;>simp[hc]
theorem AS {t e:TypeId}{x:Operand}{lo hi mx:Option Operand}(ho:o.op=.slice t x lo hi mx)(hu:P.underlying t=some (.slice e)){sz:Nat}(dZ:ck P e sz=true)(hx:aN w G .U (ρ x))
  (ha:wj ρ lo 0 0) (hb:wj ρ hi 0 0) (hm:mx=none\/∃z,mx=some z/\hi.isSome=true/\ρ z=.int .i64 0) :
  (execOp ρ o).run P w=.ok (.value (.slice none 0 0)) w:=by
 generalize Gd:ρ x=xv at hx
 cases hx
 simp only[execOp,ho,Gd,Sem.run_bind]
 rcases hm with rfl|⟨z,rfl,hh,hz⟩
 ·have lO:wj ρ hi ((0:Nat):Int) 0:=hb
  simp only[Instr.sliceAt,Sem.run_bind,run_underlying hu,Result.andThen_ok,Instr.slice,Option.map_none,jG (len:=0) (cap:=0) ha lO (by omega) (by omega) (by simp),dG dZ,Sem.run_pure]
  simp
 ·have key:(Instr.sliceBounds true 0 0 (lo.map ρ) (hi.map ρ) (some (ρ z))).run P w=.ok (0,0,0) w:=by
   rcases ha with⟨rfl,_⟩|⟨y,rfl,hy⟩<;>rcases hb with⟨rfl,_⟩|⟨y',rfl,VE⟩
   ·simp at hh
   ·simp[Instr.sliceBounds,hz,VE,Instr.sliceBound,asIntOf]
   ·simp at hh
   ·simp[Instr.sliceBounds,hz,hy,VE,Instr.sliceBound,asIntOf]
  simp only[Instr.sliceAt,Sem.run_bind,run_underlying hu,Result.andThen_ok,Instr.slice,Option.map_some,key,dG dZ,Sem.run_pure]
  simp
theorem yW {t e:TypeId}{x:Operand}{lo hi mx:Option Operand}(ho:o.op=.slice t x lo hi mx)(hu:P.underlying t=some (.slice e)){sz:Nat}(dZ:ck P e sz=true)(hx:aN w G .emp (ρ x))
  (ha:wj ρ lo 0 0) (hb:wj ρ hi 0 0) (hm:mx=none\/∃z,mx=some z/\hi.isSome=true/\ρ z=.int .i64 0) :
  ∃u,(execOp ρ o).run P w=.ok (.value u) w/\aN w G .emp u:=by
 generalize Gd:ρ x=xv at hx
 obtain⟨ad,rfl⟩:∃ad,xv=.slice (some ad) 0 0:=by cases hx;exact⟨_,rfl⟩
 refine⟨_,?_,.emp ad⟩
 simp only[execOp,ho,Gd,Sem.run_bind]
 rcases hm with rfl|⟨z,rfl,hh,hz⟩
 ·have lO:wj ρ hi ((0:Nat):Int) 0:=hb
  simp only[Instr.sliceAt,Sem.run_bind,run_underlying hu,Result.andThen_ok,Instr.slice,Option.map_none,jG (len:=0) (cap:=0) ha lO (by omega) (by omega) (by simp),dG dZ,Sem.run_pure]
  simp
 ·have key:(Instr.sliceBounds true 0 0 (lo.map ρ) (hi.map ρ) (some (ρ z))).run P w=.ok (0,0,0) w:=by
   rcases ha with⟨rfl,_⟩|⟨y,rfl,hy⟩<;>rcases hb with⟨rfl,_⟩|⟨y',rfl,VE⟩
   ·simp at hh
   ·simp[Instr.sliceBounds,hz,VE,Instr.sliceBound,asIntOf]
   ·simp at hh
   ·simp[Instr.sliceBounds,hz,hy,VE,Instr.sliceBound,asIntOf]
  simp only[Instr.sliceAt,Sem.run_bind,run_underlying hu,Result.andThen_ok,Instr.slice,Option.map_some,key,dG dZ,Sem.run_pure]
  simp
theorem AT {t e:TypeId}{x z:Operand}{lo hi:Option Operand}(ho:o.op=.slice t x lo hi (some z))(hu:P.underlying t=some (.slice e)){sz s:Nat}(dZ:ck P e sz=true){rows:List (List AV)}(hx:aN w G (.cU s rows) (ρ x))
  (ha:wj ρ lo 0 0) (hb:wj ρ hi rows.length 0) (hh:hi.isSome=true) (hz:ρ z=.int .i64 0) :
  ∃u,(execOp ρ o).run P w=.ok (.value u) w/\aN w G .emp u:=by
 generalize Gd:ρ x=xv at hx
 have hs:∃ad len cap,xv=.slice (some ad) len cap:=by cases hx;exact⟨_,_,_,rfl⟩
 obtain⟨ad,len,cap,rfl⟩:=hs
 refine⟨_,?_,.emp ad⟩
 have key:(Instr.sliceBounds true len cap (lo.map ρ) (hi.map ρ) (some (ρ z))).run P w=.ok (0,0,0) w:=by
  rcases ha with⟨rfl,_⟩|⟨y,rfl,hy⟩<;>rcases hb with⟨rfl,_⟩|⟨y',rfl,VE⟩
  ·simp at hh
  ·simp[Instr.sliceBounds,hz,VE,Instr.sliceBound,asIntOf]
  ·simp at hh
  ·simp[Instr.sliceBounds,hz,hy,VE,Instr.sliceBound,asIntOf]
 simp only[execOp,ho,Gd,Sem.run_bind]
 simp only[Instr.sliceAt,Sem.run_bind,run_underlying hu,Result.andThen_ok,Instr.slice,Option.map_some,key,dG dZ,Sem.run_pure]
 simp
theorem run_checkKey {t:TypeId}{kk:SK}(ht:nB P t kk=true)(b:Bool)(n:Nat)(v:Value)(w:World):(Instr.checkKey b (n+1) t v).run P w=.ok () w:=by
 unfold nB at ht
 cases kk<;>simp only at ht<;>split at ht<;>(try cases ht)
 all_goals (rename_i hu;simp[Instr.checkKey,run_underlying hu])
def wk (w:World)(G:aM)(es:List (AV×AV))(fs:List MapEntry):Prop:=
 fs.length=es.length/\∀(i:Nat) k v e,es[i]?=some (k,v)->fs[i]?=some e->aN w G k e.key/\aN w G v e.val/\v.bX=true/\k.bX=true
theorem wk.tail {x:AV×AV}{es:List (AV×AV)}{f:MapEntry}{fs:List MapEntry}(h:wk w G (x::es) (f::fs)):wk w G es fs:=
 ⟨by have:=h.1;simpa using this,λi k v e h1 h2=>h.2 (i+1) k v e (by simpa using h1) (by simpa using h2)⟩
theorem rH {t:TypeId}{d:TypeDesc}{kk:SK}(ht:nB P t kk=true)(hu:P.underlying t=some d){a b:AV}{x y:Value}{r:Bool}(h:CF kk a b=some r)(ha:aN w G a x)(hb:aN w G b y):Instr.sameNow d x y=some r:=by
 unfold CF at h
 split at h
 ·cases h
  rw[ha.jc,hb.jc]
  simp only[nB,hu]at ht
  split at ht
  ·rename_i hd;cases hd;rfl
  ·cases ht
 ·split at h
  ·rename_i k p l q hk
   cases h
   subst hk
   rw[ha.eZ,hb.eZ]
   simp only[nB,hu]at ht
   split at ht
   ·rename_i hd;cases hd;simp[Instr.sameNow]
   ·cases ht
  ·cases h
 ·cases h
  obtain⟨s,rfl,rfl⟩:=ha.k5
  obtain⟨s',rfl,rfl⟩:=hb.k5
  simp only[nB,hu]at ht
  split at ht
  ·rename_i hd;cases hd
   simp only[Instr.sameNow,Option.some.injEq]
   rw[beq_toListBytes,ByteArray.toList_eq,ByteArray.toList_eq]
  ·cases ht
 ·cases h
theorem rI {t:TypeId}{d:TypeDesc}{kk:SK}(ht:nB P t kk=true)(hu:P.underlying t=some d){k:AV}{x:Value}(hk:aN w G k x):∀(es:List (AV×AV))(fs:List MapEntry)(i:Nat)(r:Option AV),
  wk w G es fs->pY kk k es=some r->∃q,Instr.findNow d x fs i=some q/\
   (match r with
    |none=>q=none
    |some v=>∃j e,q=some (i+j,e.val)/\fs[j]?=some e/\aN w G v e.val/\v.bX=true)
 |[],[],i,r,_,h=>by simp[pY]at h;subst h;exact⟨none,rfl,rfl⟩
 |[],_::_,_,_,h,_=>by simp[wk]at h
 |_::_,[],_,_,h,_=>by simp[wk]at h
 |(a,v)::es,f::fs,i,r,hM,h=>by
  obtain⟨h1,h2,h3,_⟩:=hM.2 0 a v f rfl rfl
  simp only[pY]at h
  split at h
  ·rename_i he
   cases h
   exact⟨some (i,f.val),by simp[Instr.findNow,rH ht hu he hk h1],0,f,rfl,rfl,h2,h3⟩
  ·rename_i he
   obtain⟨q,e1,e2⟩:=rI ht hu hk es fs (i+1) r hM.tail h
   refine⟨q,by simp[Instr.findNow,rH ht hu he hk h1,e1],?_⟩
   cases r with
   |none=>exact e2
   |some v'=>
    obtain⟨j,e,g1,g2,g3⟩:=e2
    exact⟨j+1,e,by rw[g1,show i+1+j=i+(j+1) by omega],by simpa using g2,g3⟩
  ·cases h
theorem run_findKey {t:TypeId}{kk:SK}(ht:nB P t kk=true){k:AV}{x:Value}(hk:aN w G k x){es:List (AV×AV)}{fs:List MapEntry}{r:Option AV}(hM:wk w G es fs)(hf:pY kk k es=some r)(w':World) :
  ∃q,(Instr.findKey t x fs).run P w'=.ok q w'/\
   (match r with
    |none=>q=none
    |some v=>∃j e,q=some (j,e.val)/\fs[j]?=some e/\aN w G v e.val/\v.bX=true):=by
 have hu:∃d,P.underlying t=some d:=by
  unfold nB at ht
  cases kk<;>simp only at ht<;>split at ht<;>(try cases ht)<;>exact⟨_,by assumption⟩
 obtain⟨d,hu⟩:=hu
 obtain⟨q,e1,e2⟩:=rI ht hu hk es fs 0 r hM hf
 refine⟨q,by simp[Instr.findKey,run_underlying hu,e1],?_⟩
 cases r with
 |none=>exact e2
 |some v=>obtain⟨j,e,g1,g2⟩:=e2;exact⟨j,e,by simpa using g1,g2⟩
theorem N6 {t kt et:TypeId}{m k:Operand}{ok:Bool}(ho:o.op=.lookup t m k ok)(hu:P.underlying t=some (.map kt et)){kk:SK}(ht:nB P kt kk=true){ie:TypeInfo}{z:Value}(hie:P.info? et=some ie)(hz:ie.zero=some z){zero:AV}(Nx:uG z zero=true)
  {st:an} (hI:Inv w G st) {am ak:AV} {es:List (AV×AV)} (qK:(am=.fh/\es=[])\/∃id,am=.map id/\st[id]?=some (.map es)) {r:Option AV} (hf:pY kk ak es=some r) (hm:aN w G am (ρ m)) (hk:aN w G ak (ρ k)) :
  ∃u,(execOp ρ o).run P w=.ok (.value u) w/\aN w G (if ok then .fz [r.getD zero,.bool r.isSome] else r.getD zero) u/\(r.getD zero).bX=true:=by
 obtain⟨hz1,hz2,_⟩:=we Nx w G
 have hzv:(zeroValue et).run P w=.ok z w:=by simp[zeroValue,typeInfo,hie,hz]
 have two:∀(v:AV) (x:Value) (b:Bool),aN w G v x->aN w G (if ok then .fz [v,.bool b] else v) (if ok=true then Value.tuple #[x,.bool b] else x):=by
  intro v x b hv
  cases ok
  ·exact hv
  ·refine .fz _ _ rfl λi c y h1 h2=>?_
   match i with
   |0=>simp at h1 h2;subst h1;subst h2;exact hv
   |1=>simp at h1 h2;subst h1;subst h2;exact .bool _
   |i+2=>simp at h1
 have fin:∀(fs:Array MapEntry),wk w G es fs.toList->∃x b,aN w G (r.getD zero) x/\b=r.isSome/\(r.getD zero).bX=true/\∃q,(Instr.findKey kt (ρ k) fs.toList).run P w=.ok q w/\((∃j,q=some (j,x)/\b=true)\/(q=none/\x=z/\b=false)):=by
  intro fs hM
  obtain⟨q,e1,e2⟩:=run_findKey ht hk hM hf w
  cases r with
  |none=>exact⟨z,false,hz1,rfl,hz2,q,e1,.inr ⟨e2,rfl,rfl⟩⟩
  |some v=>
   obtain⟨j,e,g1,g2,g3,g4⟩:=e2
   exact⟨e.val,true,g3,rfl,g4,q,e1,.inl ⟨j,g1,rfl⟩⟩
 rcases qK with⟨rfl,rfl⟩|⟨id,rfl,fm⟩
 ·generalize hmv:ρ m=mv at hm
  cases hm
  obtain⟨x,b,h1,rfl,h3,q,h4,h5⟩:=fin #[] ⟨rfl,λi k v e h _=>by simp at h⟩
  refine⟨_,?_,two _ _ _ h1,h3⟩
  have Z1:=run_checkKey (w:=w) ht (#[]:Array MapEntry).isEmpty 9999 (ρ k)
  simp only[execOp,ho,hmv,Sem.run_bind]
  simp only[Instr.lookup,Sem.run_bind,run_underlying hu,Result.andThen_ok,Sem.run_pure,Z1,h4]
  rcases h5 with⟨j,rfl,hb⟩|⟨rfl,rfl,hb⟩
  ·simp[hb]
  ·simp[hb,hzv]
 ·generalize hmv:ρ m=mv at hm
  obtain⟨loc,hl,SO⟩:=hI.loc fm
  cases hm with
  |map _ loc' bk nR yU lO=>
   rw[hl]at nR;cases nR
   obtain⟨g1,g2,b0,tu,clock,g3,g4,g5,g6,g7⟩:=SO
   rw[lO]at g3;cases g3
   obtain⟨x,b,h1,rfl,h3,q,h4,h5⟩:=fin tu ⟨by simpa using g6,λi k v e e1 e2=>g7 i k v e e1 (by simpa using e2)⟩
   refine⟨_,?_,two _ _ _ h1,h3⟩
   have Z1:=run_checkKey (w:=w) ht tu.isEmpty 9999 (ρ k)
   have S1:(getObj bk).run P w=.ok (.map tu clock) w:=by simp[getObj,Sem.run,g4]
   simp only[execOp,ho,hmv,Sem.run_bind]
   simp only[Instr.lookup,Sem.run_bind,run_underlying hu,Result.andThen_ok,Sem.run_pure,S1,Z1,h4]
   rcases h5 with⟨j,rfl,hb⟩|⟨rfl,rfl,hb⟩
   ·simp[hb]
   ·simp[hb,hzv]
end Ax
namespace Ax
open Go
variable {P:Program}{w w':World}{G G':aM}{β:List k8}
def Loc.iZ (l:Loc):Option Nat:=if l.cap=0 then none else l.a.map (·.block)
def eX (b:Nat):List (List AV)->List (List Value)->Nat
 |r::rs,x::xs=>bR b r x+eX b rs xs
 |_,_=>0
def gz (b:Nat)(loc:Loc):fB->Nat
 |.rows _ _ rows=>(if loc.iZ=some b then 1 else 0)+eX b rows loc.vals
 |.map _=>if loc.iZ=some b then 1 else 0
def bY (b:Nat):List Loc->List fB->Nat
 |l::ls,o::st=>gz b l o+bY b ls st
 |_,_=>0
def fC (b:Nat):List k8->List (List AV)->Nat
 |g::β,r::bx=>(if g.iZ=some b then 1 else 0)+bR b r g.vals+fC b β bx
 |_,_=>0
theorem uJ (b:Nat):∀(rs:List (List AV))(xs:List (List Value))(i:Nat) r x,rs[i]?=some r->xs[i]?=some x->bR b r x<=eX b rs xs
 |[],_,_,_,_,h,_=>by simp at h
 |_::_,[],_,_,_,_,h=>by simp at h
 |r::rs,x::xs,0,r',x',h,k=>by simp at h k;subst h;subst k;simp only[eX];omega
 |r::rs,x::xs,i+1,r',x',h,k=>by
  have:=uJ b rs xs i r' x' (by simpa using h) (by simpa using k)
  simp only[eX];omega
theorem qQ (b:Nat):∀(rs:List (List AV))(xs:List (List Value))(i:Nat) r x r' x',rs[i]?=some r->xs[i]?=some x->
  eX b (rs.set i r') (xs.set i x')+bR b r x=eX b rs xs+bR b r' x'
 |[],_,_,_,_,_,_,h,_=>by simp at h
 |_::_,[],_,_,_,_,_,_,h=>by simp at h
 |r::rs,x::xs,0,r1,x1,r',x',h,k=>by simp at h k;subst h;subst k;simp only[List.set_cons_zero,eX];omega
 |r::rs,x::xs,i+1,r1,x1,r',x',h,k=>by
  have:=qQ b rs xs i r1 x1 r' x' (by simpa using h) (by simpa using k)
  simp only[List.set_cons_succ,eX];omega
theorem yX (b:Nat):∀(rs:List (List AV))(xs:List (List Value)),(∀r∈rs,AV.dz r=true)->eX b rs xs=0
 |[],_,_=>by simp[eX]
 |_::_,[],_=>by simp[eX]
 |r::rs,x::xs,h=>by
  simp only[eX,cW b r x (h r (by simp)),yX b rs xs λr' hr=>h r' (by simp[hr])]
theorem lX (b:Nat):∀(ls:List Loc)(st:List fB)(i:Nat) l o,ls[i]?=some l->st[i]?=some o->gz b l o<=bY b ls st
 |[],_,_,_,_,h,_=>by simp at h
 |_::_,[],_,_,_,_,h=>by simp at h
 |l::ls,o::st,0,l',o',h,k=>by simp at h k;subst h;subst k;simp only[bY];omega
 |l::ls,o::st,i+1,l',o',h,k=>by
  have:=lX b ls st i l' o' (by simpa using h) (by simpa using k)
  simp only[bY];omega
theorem Gi (b:Nat):∀(ls:List Loc)(st:List fB)(i j:Nat) l o l' o',i≠j->ls[i]?=some l->st[i]?=some o->ls[j]?=some l'->st[j]?=some o'->gz b l o+gz b l' o'<=bY b ls st
 |[],_,_,_,_,_,_,_,_,h,_,_,_=>by simp at h
 |_::_,[],_,_,_,_,_,_,_,_,h,_,_=>by simp at h
 |l::ls,o::st,0,0,_,_,_,_,h,_,_,_,_=>absurd rfl h
 |l::ls,o::st,0,j+1,l1,o1,l2,o2,_,h1,h2,h3,h4=>by
  simp at h1 h2;subst h1;subst h2
  have:=lX b ls st j l2 o2 (by simpa using h3) (by simpa using h4)
  simp only[bY];omega
 |l::ls,o::st,i+1,0,l1,o1,l2,o2,_,h1,h2,h3,h4=>by
  simp at h3 h4;subst h3;subst h4
  have:=lX b ls st i l1 o1 (by simpa using h1) (by simpa using h2)
  simp only[bY];omega
 |l::ls,o::st,i+1,j+1,l1,o1,l2,o2,h,h1,h2,h3,h4=>by
  have:=Gi b ls st i j l1 o1 l2 o2 (by omega) (by simpa using h1) (by simpa using h2) (by simpa using h3) (by simpa using h4)
  simp only[bY];omega
theorem tG (b:Nat):∀(ls:List Loc)(st:List fB)(i:Nat) l o l' o',ls[i]?=some l->st[i]?=some o->
  bY b (ls.set i l') (st.set i o')+gz b l o=bY b ls st+gz b l' o'
 |[],_,_,_,_,_,_,h,_=>by simp at h
 |_::_,[],_,_,_,_,_,_,h=>by simp at h
 |l::ls,o::st,0,l1,o1,l2,o2,h,k=>by simp at h k;subst h;subst k;simp only[List.set_cons_zero,bY];omega
 |l::ls,o::st,i+1,l1,o1,l2,o2,h,k=>by
  have:=tG b ls st i l1 o1 l2 o2 (by simpa using h) (by simpa using k)
  simp only[List.set_cons_succ,bY];omega
theorem qb (b:Nat):∀(ls ls':List Loc)(st bP:List fB),ls.length=st.length->bY b (ls++ls') (st++bP)=bY b ls st+bY b ls' bP
 |[],_,[],_,_=>by simp[bY]
 |[],_,_::_,_,h=>by simp at h
 |_::_,_,[],_,h=>by simp at h
 |l::ls,ls',o::st,bP,h=>by
  simp only[List.cons_append,bY]
  rw[qb b ls ls' st bP (by simpa using h)];omega
theorem lY (b:Nat):∀(β:List k8)(bx:List (List AV))(i:Nat) g r,β[i]?=some g->bx[i]?=some r->(if g.iZ=some b then 1 else 0)+bR b r g.vals<=fC b β bx
 |[],_,_,_,_,h,_=>by simp at h
 |_::_,[],_,_,_,_,h=>by simp at h
 |g::β,r::bx,0,g',r',h,k=>by simp at h k;subst h;subst k;simp only[fC];omega
 |g::β,r::bx,i+1,g',r',h,k=>by
  have:=lY b β bx i g' r' (by simpa using h) (by simpa using k)
  simp only[fC];omega
theorem wU (b:Nat):∀(β:List k8)(bx:List (List AV))(i:Nat) g r g' r',β[i]?=some g->bx[i]?=some r->
  fC b (β.set i g') (bx.set i r')+((if g.iZ=some b then 1 else 0)+bR b r g.vals)=fC b β bx+((if g'.iZ=some b then 1 else 0)+bR b r' g'.vals)
 |[],_,_,_,_,_,_,h,_=>by simp at h
 |_::_,[],_,_,_,_,_,_,h=>by simp at h
 |g::β,r::bx,0,g1,r1,g2,r2,h,k=>by simp at h k;subst h;subst k;simp only[List.set_cons_zero,fC];omega
 |g::β,r::bx,i+1,g1,r1,g2,r2,h,k=>by
  have:=wU b β bx i g1 r1 g2 r2 (by simpa using h) (by simpa using k)
  simp only[List.set_cons_succ,fC];omega
theorem Gj (b:Nat):∀(β:List k8)(bx:List (List AV))(i j:Nat) g r g' r',i≠j->β[i]?=some g->bx[i]?=some r->β[j]?=some g'->bx[j]?=some r'->
  ((if g.iZ=some b then 1 else 0)+bR b r g.vals)+((if g'.iZ=some b then 1 else 0)+bR b r' g'.vals)<=fC b β bx
 |[],_,_,_,_,_,_,_,_,h,_,_,_=>by simp at h
 |_::_,[],_,_,_,_,_,_,_,_,h,_,_=>by simp at h
 |l::ls,o::st,0,0,_,_,_,_,h,_,_,_,_=>absurd rfl h
 |l::ls,o::st,0,j+1,l1,o1,l2,o2,_,h1,h2,h3,h4=>by
  simp at h1 h2;subst h1;subst h2
  have:=lY b ls st j l2 o2 (by simpa using h3) (by simpa using h4)
  simp only[fC];omega
 |l::ls,o::st,i+1,0,l1,o1,l2,o2,_,h1,h2,h3,h4=>by
  simp at h3 h4;subst h3;subst h4
  have:=lY b ls st i l1 o1 (by simpa using h1) (by simpa using h2)
  simp only[fC];omega
 |l::ls,o::st,i+1,j+1,l1,o1,l2,o2,h,h1,h2,h3,h4=>by
  have:=Gj b ls st i j l1 o1 l2 o2 (by omega) (by simpa using h1) (by simpa using h2) (by simpa using h3) (by simpa using h4)
  simp only[fC];omega
structure wV (w:World)(G:aM)(row:List AV)(g:k8):Prop where
 rep:b8 w G row g.vals
 z6:AV.aK row=true
 nS:(g.iZ=none/\row=[])\/∃b c e,g.iZ=some b/\w.heap[b]?=some (.cells c e (0,0))/\row.length<=c.size/\G.kL b=some 0/\∀(k:Nat) x,g.vals[k]?=some x->w.cell? ⟨b,k,none⟩=some x
structure jq (w:World)(G:aM)(β:List k8)(bx:aX):Prop where
 len:β.length=bx.length
 box:∀(j:Nat) row g,bx[j]?=some row->β[j]?=some g->wV w G row g
def dH (w:World)(G:aM)(w':World)(G':aM)(b:Nat):Prop:=G'.kL b=G.kL b/\w'.heap[b]?=w.heap[b]?
theorem ou {b o:Nat}(h:w'.heap[b]?=w.heap[b]?):w'.cell? ⟨b,o,none⟩=w.cell? ⟨b,o,none⟩:=by simp[World.cell?,h]
theorem wV.iB {row:List AV}{g:k8}(h:wV w G row g)(hs:qa w G w' G')(hf:∀b,0<(if g.iZ=some b then 1 else 0)+bR b row g.vals->dH w G w' G' b):wV w' G' row g where
 rep:=h.rep.mono hs λb hb=>hf b (by omega)
 z6:=h.z6
 nS:=by
  rcases h.nS with h|⟨b,c,e,h1,h2,h3,h4,h5⟩
  ·exact .inl h
  ·obtain⟨a1,a2⟩:=hf b (by simp[h1];omega)
   exact .inr ⟨b,c,e,h1,a2.trans h2,h3,a1.trans h4,λk x hx=>(ou a2).trans (h5 k x hx)⟩
theorem nT.iB {ob:fB}{loc:Loc}(h:nT w G ob loc)(hs:qa w G w' G')(hf:∀b,0<gz b loc ob->dH w G w' G' b):nT w' G' ob loc:=by
 cases ob with
 |rows bU sz rows=>
  obtain⟨h1,h2,h3⟩:=h
  refine⟨h1,h2,h3.fit,h3.z6,h3.len,h3.size,h3.qv,λi r xs e1 e2=>?_,?_⟩
  ·refine(h3.qP i r xs e1 e2).mono hs λb hb=>hf b ?_
   have:=uJ b rows loc.vals i r xs e1 e2
   simp only[gz];omega
  ·rcases h3.nS with h|⟨b,off,c,e,g1,g2,g3,g4,g5,g6,g7⟩
   ·exact .inl h
   ·obtain⟨a1,a2⟩:=hf b (by
     have:loc.iZ=some b:=by unfold Loc.iZ;rw[if_neg (by omega),g1];rfl
     simp[gz,this];omega)
    exact .inr ⟨b,off,c,e,g1,g2,a2.trans g3,g4,g5,a1.trans g6,λi xs j x e1 e2=>(ou a2).trans (g7 i xs j x e1 e2)⟩
 |map es=>
  obtain⟨h1,h2,b,tu,clock,h3,h4,h5,h6,h7⟩:=h
  obtain⟨a1,a2⟩:=hf b (by
   have:loc.iZ=some b:=by unfold Loc.iZ;rw[if_neg (by omega),h3];rfl
   simp[gz,this])
  refine⟨h1,h2,b,tu,clock,h3,a2.trans h4,a1.trans h5,h6,λi k v e e1 e2=>?_⟩
  obtain⟨g1,g2,g3,g4⟩:=h7 i k v e e1 e2
  exact⟨g1.iB hs λb hb=>by rw[eu b k _ g4]at hb;omega,g2.iB hs λb hb=>by rw[eu b v _ g3]at hb;omega,g3,g4⟩
theorem aN.held {a:AV}{v:Value}{b:Nat}(h:aN w G a v):0<eP b a v->b<w.heap.size:=by
 induction h with
 |agg cs vs hl h ih=>
  intro hb
  simp only[eP]at hb
  have key:∀(cs:List AV) (vs:List Value),0<bR b cs vs->∃(i:Nat) (c:AV) (v:Value),cs[i]?=some c/\vs[i]?=some v/\0<eP b c v:=by
   intro cs
   induction cs with
   |nil=>intro vs h;rw[AP]at h;omega
   |cons c cs ih=>
    intro vs h
    cases vs with
    |nil=>simp[bR]at h
    |cons v vs=>
     simp only[bR]at h
     by_cases hc:0<eP b c v
     ·exact⟨0,c,v,rfl,rfl,hc⟩
     ·obtain⟨i,c',v',e1,e2,e3⟩:=ih vs (by omega)
      exact⟨i+1,c',v',by simpa using e1,by simpa using e2,e3⟩
  obtain⟨i,c,v,e1,e2,e3⟩:=key cs vs.toList hb
  exact ih i c v e1 (by simpa using e2) e3
 |fz cs vs hl h ih=>
  intro hb
  simp only[eP]at hb
  have key:∀(cs:List AV) (vs:List Value),0<bR b cs vs->∃(i:Nat) (c:AV) (v:Value),cs[i]?=some c/\vs[i]?=some v/\0<eP b c v:=by
   intro cs
   induction cs with
   |nil=>intro vs h;rw[AP]at h;omega
   |cons c cs ih=>
    intro vs h
    cases vs with
    |nil=>simp[bR]at h
    |cons v vs=>
     simp only[bR]at h
     by_cases hc:0<eP b c v
     ·exact⟨0,c,v,rfl,rfl,hc⟩
     ·obtain⟨i,c',v',e1,e2,e3⟩:=ih vs (by omega)
      exact⟨i+1,c',v',by simpa using e1,by simpa using e2,e3⟩
  obtain⟨i,c,v,e1,e2,e3⟩:=key cs vs.toList hb
  exact ih i c v e1 (by simpa using e2) e3
 |own sz rows a cap ot eS bn iY nA uD hc hr gx fj ih=>
  intro hb
  simp only[eP]at hb
  split at hb
  ·rename_i e
   obtain⟨c,e',h1,_⟩:=fj
   rw[<-e];exact(Array.getElem?_eq_some_iff.1 h1).1
  ·omega
 |raw sz rows a cap ot eS bn iY nA uD hc hr gx fj ih=>
  intro hb
  simp only[eP]at hb
  split at hb
  ·rename_i e
   obtain⟨c,e',h1,_⟩:=fj
   rw[<-e];exact(Array.getElem?_eq_some_iff.1 h1).1
  ·omega
 |_=>intro hb;simp[eP]at hb
theorem b8.held {as:List AV}{xs:List Value}{b:Nat}(h:b8 w G as xs)(hb:0<bR b as xs):b<w.heap.size:=by
 have:aN w G (.agg as) (.agg xs.toArray):=.agg _ _ (by simpa using h.1) λi c v e1 e2=>h.2 i c v e1 (by simpa using e2)
 exact this.held (by simpa [eP] using hb)
theorem nT.held {ob:fB}{loc:Loc}{b:Nat}(h:nT w G ob loc)(hb:0<gz b loc ob):b<w.heap.size:=by
 have iZ:loc.iZ=some b->b<w.heap.size:=by
  intro e
  unfold Loc.iZ at e
  split at e
  ·cases e
  ·rename_i eS
   cases ob with
   |rows bU sz rows=>
    obtain⟨_,_,h3⟩:=h
    rcases h3.nS with⟨h0,_⟩|⟨b',off,c,e',g1,g2,g3,_⟩
    ·exact absurd h0 eS
    ·rw[g1]at e;simp at e;subst e;exact(Array.getElem?_eq_some_iff.1 g3).1
   |map es=>
    obtain⟨_,_,b',tu,clock,h3,h4,_⟩:=h
    rw[h3]at e;simp at e;subst e;exact(Array.getElem?_eq_some_iff.1 h4).1
 cases ob with
 |rows bU sz rows=>
  simp only[gz]at hb
  split at hb
  ·exact iZ (by assumption)
  ·obtain⟨_,_,h3⟩:=h
   have key:∀(rs:List (List AV)) (xs:List (List Value)),0<eX b rs xs->∃(i:Nat) (r:List AV) (x:List Value),rs[i]?=some r/\xs[i]?=some x/\0<bR b r x:=by
    intro rs
    induction rs with
    |nil=>intro xs h;simp[eX]at h
    |cons r rs ih=>
     intro xs h
     cases xs with
     |nil=>simp[eX]at h
     |cons x xs=>
      simp only[eX]at h
      by_cases hc:0<bR b r x
      ·exact⟨0,r,x,rfl,rfl,hc⟩
      ·obtain⟨i,r',x',e1,e2,e3⟩:=ih xs (by omega)
       exact⟨i+1,r',x',by simpa using e1,by simpa using e2,e3⟩
   obtain⟨i,r,x,e1,e2,e3⟩:=key rows loc.vals (by omega)
   exact(h3.qP i r x e1 e2).held e3
 |map es=>
  simp only[gz]at hb
  split at hb
  ·exact iZ (by assumption)
  ·omega
theorem Inv.held {st:an}{b:Nat}(h:Inv w G st)(hb:0<bY b G.ls st):b<w.heap.size:=by
 have key:∀(ls:List Loc) (st:List fB),0<bY b ls st->∃(i:Nat) (l:Loc) (o:fB),ls[i]?=some l/\st[i]?=some o/\0<gz b l o:=by
  intro ls
  induction ls with
  |nil=>intro st h;simp[bY]at h
  |cons l ls ih=>
   intro st h
   cases st with
   |nil=>simp[bY]at h
   |cons o st=>
    simp only[bY]at h
    by_cases hc:0<gz b l o
    ·exact⟨0,l,o,rfl,rfl,hc⟩
    ·obtain⟨i,l',o',e1,e2,e3⟩:=ih st (by omega)
     exact⟨i+1,l',o',by simpa using e1,by simpa using e2,e3⟩
 obtain⟨i,l,o,e1,e2,e3⟩:=key G.ls st hb
 exact(h.obj i o l e2 e1).held e3
theorem jq.held {bx:aX}{b:Nat}(h:jq w G β bx)(hb:0<fC b β bx):b<w.heap.size:=by
 have key:∀(β:List k8) (bx:aX),0<fC b β bx->∃(i:Nat) (g:k8) (r:List AV),β[i]?=some g/\bx[i]?=some r/\0<(if g.iZ=some b then 1 else 0)+bR b r g.vals:=by
  intro β
  induction β with
  |nil=>intro st h;simp[fC]at h
  |cons l ls ih=>
   intro st h
   cases st with
   |nil=>simp[fC]at h
   |cons o st=>
    simp only[fC]at h
    by_cases hc:0<(if l.iZ=some b then 1 else 0)+bR b o l.vals
    ·exact⟨0,l,o,rfl,rfl,hc⟩
    ·obtain⟨i,l',o',e1,e2,e3⟩:=ih st (by omega)
     exact⟨i+1,l',o',by simpa using e1,by simpa using e2,e3⟩
 obtain⟨i,g,r,e1,e2,e3⟩:=key β bx hb
 have hB:=h.box i r g e2 e1
 by_cases hc:0<bR b r g.vals
 ·exact hB.rep.held hc
 ·split at e3
  ·rename_i fj
   rcases hB.nS with⟨h0,_⟩|⟨b',c,e',g1,g2,_⟩
   ·rw[h0]at fj;cases fj
   ·rw[g1]at fj;cases fj;exact(Array.getElem?_eq_some_iff.1 g2).1
  ·omega
end Ax
namespace Ax
open Go
variable {P:Program}{w w':World}{G G':aM}{β fQ:List k8}{ρ:Operand->Value}{o:Oper}
structure iG (w:World)(G:aM)(β:List k8)(st:an)(bx:aX)(cO:Nat->Nat)(w':World)(G':aM)(fQ:List k8)(bP:an)(eR:aX)(e:dX)(v:Value):Prop where
 iB:qa w G w' G'
 inv:Inv w' G' bP
 box:jq w' G' fQ eR
 rep:jF w' G' fQ e v
 eP:∀b,cj b e v+fC b fQ eR+bY b G'.ls bP<=cO b+fC b β bx+bY b G.ls st+(if w.heap.size<=b then 1 else 0)
 tH:∀b,cO b+fC b β bx+bY b G.ls st=0->b<w.heap.size->dH w G w' G' b
 size:w.heap.size<=w'.heap.size
 os:w'.os=w.os
 out:w'.output=w.output
theorem iG.quiet {st:an}{bx:aX}{cO:Nat->Nat}{e:dX}{v:Value}(hI:Inv w G st)(hB:jq w G β bx)(hr:jF w G β e v)(hc:∀b,cj b e v<=cO b):iG w G β st bx cO w G β st bx e v where
 iB:=qa.refl w G
 inv:=hI
 box:=hB
 rep:=hr
 eP:=λb=>by have:=hc b;omega
 tH:=λ_ _ _=>⟨rfl,rfl⟩
 size:=Nat.le_refl _
 os:=rfl
 out:=rfl
def aM.new (G:aM)(n:Nat)(x:Option Nat)(l:List Loc):aM:=⟨G.ls++l,λb=>if b=n then x else G.kL b⟩
theorem L1 {ob:Obj}(hw:w'.heap=w.heap.push ob){b o:Nat}(hb:b<w.heap.size):w'.cell? ⟨b,o,none⟩=w.cell? ⟨b,o,none⟩:=by
 refine ou ?_
 rw[hw,Array.getElem?_push,if_neg (by omega)]
theorem qc {ob:Obj}(hw:w'.heap=w.heap.push ob)(x:Option Nat)(l:List Loc):qa w G w' (G.new w.heap.size x l) where
 NR:=λb o hi=>by
  refine⟨L1 hw hi.1,by rw[hw];simp;have:=hi.1;omega,λp hp=>?_⟩
  have:¬b=w.heap.size:=by have:=hi.1;omega
  simp only[aM.new,if_neg this]at hp
  exact hi.2 p hp
 ids:=λid loc hl=>by
  refine⟨loc,?_,Nat.le_refl _,λ_=>rfl⟩
  simp only[aM.new]
  rw[List.getElem?_append_left (List.getElem?_eq_some_iff.1 hl).1]
  exact hl
theorem fW {ob:Obj}(hw:w'.heap=w.heap.push ob)(x:Option Nat)(l:List Loc){b:Nat}(hb:b<w.heap.size):dH w G w' (G.new w.heap.size x l) b:=by
 refine⟨by simp only[aM.new];rw[if_neg (by omega)],?_⟩
 rw[hw,Array.getElem?_push,if_neg (by omega)]
theorem aN.push {ob:Obj}(hw:w'.heap=w.heap.push ob)(x:Option Nat)(l:List Loc){a:AV}{v:Value}(h:aN w G a v):aN w' (G.new w.heap.size x l) a v:=
 h.iB (qc hw x l) λ_ hb=>fW hw x l (h.held hb)
theorem b8.push {ob:Obj}(hw:w'.heap=w.heap.push ob)(x:Option Nat)(l:List Loc){as:List AV}{xs:List Value}(h:b8 w G as xs):b8 w' (G.new w.heap.size x l) as xs:=
 ⟨h.1,λi c v e1 e2=>(h.2 i c v e1 e2).push hw x l⟩
theorem Kp {ob:Obj}(hw:w'.heap=w.heap.push ob)(x:Option Nat){st:an}(hI:Inv w G st):Inv w' (G.new w.heap.size x []) st where
 len:=by simp[aM.new,hI.len]
 obj:=λid F0 loc h1 h2=>by
  simp only[aM.new,List.append_nil]at h2
  have h:=hI.obj id F0 loc h1 h2
  exact h.iB (qc hw x []) λb hb=>fW hw x [] (h.held hb)
 k9:=λb p hp=>by
  simp only[aM.new]at hp
  rw[hw]
  simp only[Array.size_push]
  split at hp
  ·omega
  ·have:=hI.k9 b p hp;omega
theorem Gk {ob:Obj}(hw:w'.heap=w.heap.push ob)(x:Option Nat){st:an}(hI:Inv w G st){loc:Loc}{ao:fB}(h:nT w' (G.new w.heap.size x [loc]) ao loc):Inv w' (G.new w.heap.size x [loc]) (st++[ao]) where
 len:=by simp[aM.new,hI.len]
 obj:=λid F0 l h1 h2=>by
  simp only[aM.new]at h2
  by_cases IJ:id<st.length
  ·rw[List.getElem?_append_left IJ]at h1
   rw[List.getElem?_append_left (by rw[hI.len];exact IJ)]at h2
   have h:=hI.obj id F0 l h1 h2
   exact h.iB (qc hw x [loc]) λb hb=>fW hw x [loc] (h.held hb)
  ·rw[List.getElem?_append_right (by omega)]at h1
   rw[List.getElem?_append_right (by rw[hI.len];omega)]at h2
   rw[hI.len]at h2
   have h0:id-st.length=0:=by
    have:=(List.getElem?_eq_some_iff.1 h1).1;simp at this;omega
   rw[h0]at h1 h2
   simp at h1 h2
   subst h1;subst h2
   exact h
 k9:=λb p hp=>by
  simp only[aM.new]at hp
  rw[hw]
  simp only[Array.size_push]
  split at hp
  ·omega
  ·have:=hI.k9 b p hp;omega
theorem AU {ob:Obj}(hw:w'.heap=w.heap.push ob)(x:Option Nat)(l:List Loc){bx:aX}(hB:jq w G β bx):jq w' (G.new w.heap.size x l) β bx where
 len:=hB.len
 box:=λj row g h1 h2=>by
  have h:=hB.box j row g h1 h2
  refine h.iB (qc hw x l) λb hb=>fW hw x l (hB.held (b:=b) ?_)
  have:=lY b β bx j g row h2 h1
  omega
theorem z8 {ob:Obj}(hw:w'.heap=w.heap.push ob)(IK:w'.os=w.os)(vr:w'.output=w.output)(x:Option Nat){st:an}{bx:aX}(hI:Inv w G st)(hB:jq w G β bx){cO:Nat->Nat}{a:AV}{v:Value}
  (hr:aN w' (G.new w.heap.size x []) a v) (hc:∀b,eP b a v<=if b=w.heap.size then 1 else 0):iG w G β st bx cO w' (G.new w.heap.size x []) β st bx (.val a) v where
 iB:=qc hw x []
 inv:=Kp hw x hI
 box:=AU hw x [] hB
 rep:=hr
 eP:=λb=>by
  have:=hc b
  simp only[cj,aM.new,List.append_nil]
  split at this
  ·rename_i e;subst e;simp;omega
  ·omega
 tH:=λb _ hb=>fW hw x [] hb
 size:=by rw[hw];simp
 os:=IK
 out:=vr
theorem qd {ob:Obj}(hw:w'.heap=w.heap.push ob)(IK:w'.os=w.os)(vr:w'.output=w.output){st:an}{bx:aX}(hI:Inv w G st)(hB:jq w G β bx){cO:Nat->Nat}{a:AV}{v:Value}{loc:Loc}{ao:fB}
  (h:nT w' (G.new w.heap.size (some 0) [loc]) ao loc) (hr:aN w' (G.new w.heap.size (some 0) [loc]) a v) (hn:a.bX=true) (hc:∀b,gz b loc ao<=(if b=w.heap.size then 1 else 0)+cO b) :
  iG w G β st bx cO w' (G.new w.heap.size (some 0) [loc]) β (st++[ao]) bx (.val a) v where
 iB:=qc hw _ _
 inv:=Gk hw _ hI h
 box:=AU hw _ _ hB
 rep:=hr
 eP:=λb=>by
  have h1:=hc b
  simp only[cj,aM.new,eu b a v hn]
  rw[qb b _ _ _ _ hI.len]
  simp only[bY]
  split at h1
  ·rename_i e;subst e;simp;omega
  ·omega
 tH:=λb _ hb=>fW hw _ _ hb
 size:=by rw[hw];simp
 os:=IK
 out:=vr
theorem qe {sz:Nat}{α:Type}:∀(rows:List (List α))(i j:Nat) r c,(∀r∈rows,r.length=sz)->rows[i]?=some r->r[j]?=some c->rows.flatten[i*sz+j]?=some c
 |[],_,_,_,_,_,h,_=>by simp at h
 |r0::rows,0,j,r,c,hf,h1,h2=>by
  simp at h1;subst h1
  simp only[List.flatten_cons,Nat.zero_mul,Nat.zero_add]
  rw[List.getElem?_append_left (List.getElem?_eq_some_iff.1 h2).1]
  exact h2
 |r0::rows,i+1,j,r,c,hf,h1,h2=>by
  have ih:=qe rows i j r c (λr hr=>hf r (by simp[hr])) (by simpa using h1) h2
  have h0:r0.length=sz:=hf r0 (by simp)
  simp only[List.flatten_cons]
  rw[List.getElem?_append_right (by rw[h0,Nat.succ_mul];omega),h0]
  rw[show (i+1)*sz+j-sz=i*sz+j by rw[Nat.succ_mul];omega]
  exact ih
theorem b9 {sz:Nat}{rows:List (List AV)}:fits sz rows=true↔∀r∈rows,r.length=sz:=by
 simp[fits]
theorem eI {sz:Nat}{α:Type}:∀(rows:List (List α)),(∀r∈rows,r.length=sz)->rows.flatten.length=rows.length*sz
 |[],_=>by simp
 |r::rows,h=>by
  simp only[List.flatten_cons,List.length_append,List.length_cons]
  rw[eI rows λr hr=>h r (by simp[hr]),h r (by simp),Nat.succ_mul]
  omega
def o6 {α:Type}(sz:Nat):Nat->List α->List (List α)
 |0,_=>[]
 |n+1,xs=>xs.take sz::o6 sz n (xs.drop sz)
theorem yY {α:Type}(sz:Nat):∀(n:Nat)(xs:List α),(o6 sz n xs).length=n
 |0,_=>rfl
 |n+1,xs=>by simp[o6,yY sz n]
theorem AW {α:Type}(sz:Nat):∀(n:Nat)(xs:List α)(i:Nat) ys,(o6 sz n xs)[i]?=some ys->ys=(xs.drop (i*sz)).take sz
 |0,_,_,_,h=>by simp[o6]at h
 |n+1,xs,0,ys,h=>by simp[o6]at h;simp[h]
 |n+1,xs,i+1,ys,h=>by
  simp only[o6,List.getElem?_cons_succ]at h
  rw[AW sz n _ i ys h,List.drop_drop]
  congr 2
  rw[Nat.succ_mul];omega
theorem Dk {sz:Nat}:∀(rows:List (List AV))(i:Nat) r,(∀r∈rows,r.length=sz)->rows[i]?=some r->(rows.flatten.drop (i*sz)).take sz=r
 |[],_,_,_,h=>by simp at h
 |r0::rows,0,r,hf,h=>by
  simp at h;subst h
  have h0:r0.length=sz:=hf r0 (by simp)
  simp[<-h0]
 |r0::rows,i+1,r,hf,h=>by
  have ih:=Dk rows i r (λr hr=>hf r (by simp[hr])) (by simpa using h)
  have h0:r0.length=sz:=hf r0 (by simp)
  simp only[List.flatten_cons]
  rw[show (i+1)*sz=r0.length+i*sz by rw[h0,Nat.succ_mul];omega,<-List.drop_drop,List.drop_left]
  exact ih
theorem o8 {sz:Nat}(b:Nat):∀(rows:List (List AV))(xs:List Value),(∀r∈rows,r.length=sz)->rows.flatten.length=xs.length->eX b rows (o6 sz rows.length xs)=bR b rows.flatten xs
 |[],xs,_,_=>by simp[eX,AP]
 |r::rows,xs,hf,hl=>by
  have h0:r.length=sz:=hf r (by simp)
  simp only[List.length_cons,o6,eX,List.flatten_cons]
  rw[List.flatten_cons,List.length_append]at hl
  rw[o8 b rows (xs.drop sz) (λr hr=>hf r (by simp[hr])) (by rw[List.length_drop];omega)]
  have:=eW b r rows.flatten (xs.take sz) (xs.drop sz) (by rw[List.length_take];omega)
  rw[List.take_append_drop]at this
  omega
theorem lZ {sz:Nat}{rows:List (List AV)}{loc:Loc}{b off:Nat}{c:Array Value}{e:TypeId}{xs:List Value}(hf:fits sz rows=true)(gY:∀r∈rows,AV.aK r=true)(dj:b8 w G rows.flatten xs)
  (h1:loc.len=rows.length) (h2:loc.sz=sz) (h3:loc.vals=o6 sz rows.length xs) (h4:loc.a=some ⟨b,off,none⟩) (h5:0<loc.cap) (h6:w.heap[b]?=some (.cells c e (0,0))) (h7:off+loc.cap*sz<=c.size)
  (h8:rows.length<=loc.cap) (h9:G.kL b=some 0) (wW:∀(k:Nat) x,xs[k]?=some x->w.cell? ⟨b,off+k,none⟩=some x):tE w G sz rows loc where
 fit:=hf
 z6:=gY
 len:=h1
 size:=h2
 qv:=by rw[h3,yY]
 qP:=λi r ys e1 e2=>by
  rw[h3]at e2
  rw[AW _ _ _ _ _ e2,<-Dk rows i r (b9.1 hf) e1]
  exact(dj.drop _).take _
 nS:=by
  refine .inr ⟨b,off,c,e,h4,h5,h6,h7,h8,h9,λi ys j x e1 e2=>?_⟩
  rw[h3]at e1
  rw[AW _ _ _ _ _ e1,List.getElem?_take]at e2
  split at e2
  ·rw[List.getElem?_drop]at e2;exact wW _ x e2
  ·cases e2
end Ax
namespace Ax
open Go
variable {P:Program}{w w':World}{G G':aM}{β fQ:List k8}{ρ:Operand->Value}{o:Oper}
theorem AX {c:Array Value}{e:TypeId}(hw:w'.heap=w.heap.push (.cells c e)){k:Nat}{x:Value}(h:c[k]?=some x):w'.cell? ⟨w.heap.size,k,none⟩=some x:=by
 simp[World.cell?,hw,h]
theorem o9 {ob:Obj}(hw:w'.heap=w.heap.push ob):w'.heap[w.heap.size]?=some ob:=by simp[hw]
theorem N8 {sz cap:Nat}{rows:List (List AV)}{c:Array Value}{e:TypeId}{xs:List Value}{l:List Loc}(hw:w'.heap=w.heap.push (.cells c e))(hf:fits sz rows=true)(gY:∀r∈rows,AV.aK r=true)
  (dj:b8 w G rows.flatten xs) (h5:0<cap) (h7:cap*sz<=c.size) (h8:rows.length<=cap) (hx:∀(k:Nat) x,xs[k]?=some x->c[k]?=some x) (bU:Nat) :
  tE w' (G.new w.heap.size (some 0) l) sz rows ⟨some ⟨w.heap.size,0,none⟩,cap,rows.length,sz,bU,false,o6 sz rows.length xs⟩:=
 lZ hf gY (dj.push hw _ _) rfl rfl rfl rfl h5 (o9 hw) (by simpa using h7) h8 (by simp[aM.new]) λk x hk=>by
  rw[Nat.zero_add];exact AX hw (hx k x hk)
theorem tJ {sz cap:Nat}{rows:List (List AV)}{c:Array Value}{e:TypeId}{xs:List Value}{st:an}{bx:aX}(hI:Inv w G st)(hB:jq w G β bx){cO:Nat->Nat}(hw:w'.heap=w.heap.push (.cells c e))(IK:w'.os=w.os)(vr:w'.output=w.output)
  (hf:fits sz rows=true) (gY:∀r∈rows,AV.aK r=true) (dj:b8 w G rows.flatten xs) (h5:0<cap) (h7:cap*sz<=c.size) (h8:rows.length<=cap)
  (hx:∀(k:Nat) x,xs[k]?=some x->c[k]?=some x) (hc:∀b,bR b rows.flatten xs<=cO b) :
  ∃G',iG w G β st bx cO w' G' β (st++[.rows 0 sz rows]) bx (.val (.mu st.length 0)) (.slice (some ⟨w.heap.size,0,none⟩) rows.length cap)/\
   iG w G β st bx cO w' G' β (st++[.rows 0 sz rows]) bx (.val (.ptr st.length 0 0 0)) (.pointer (some ⟨w.heap.size,0,none⟩)):=by
 have hR:=N8 (l:=[⟨some ⟨w.heap.size,0,none⟩,cap,rows.length,sz,0,false,o6 sz rows.length xs⟩]) hw hf gY dj h5 h7 h8 hx 0
 have I0:∀b,gz b ⟨some ⟨w.heap.size,0,none⟩,cap,rows.length,sz,0,false,o6 sz rows.length xs⟩ (.rows 0 sz rows)<=(if b=w.heap.size then 1 else 0)+cO b:=by
  intro b
  simp only[gz,Loc.iZ]
  rw[o8 b rows xs (b9.1 hf) dj.1,if_neg (show ¬cap=0 by omega)]
  have:=hc b
  simp only[Option.map_some,Option.some.injEq]
  by_cases hb:b=w.heap.size
  ·subst hb;simp;omega
  ·rw[if_neg (λh=>hb h.symm),if_neg hb];omega
 have hl:(G.new w.heap.size (some 0) [⟨some ⟨w.heap.size,0,none⟩,cap,rows.length,sz,0,false,o6 sz rows.length xs⟩]).ls[st.length]?=some ⟨some ⟨w.heap.size,0,none⟩,cap,rows.length,sz,0,false,o6 sz rows.length xs⟩:=by
  simp only[aM.new]
  rw[List.getElem?_append_right (by rw[hI.len];exact Nat.le_refl _),hI.len]
  simp
 refine⟨_,qd hw IK vr hI hB ⟨rfl,rfl,hR⟩ (.mu _ _ _ _ ⟨_,_,_,rfl⟩ hl (Nat.le_refl _) λ_=>rfl) rfl I0,
  qd hw IK vr hI hB ⟨rfl,rfl,hR⟩ (.ptr _ _ _ _ _ _ ⟨_,rfl⟩ hl (Nat.le_refl _) λ_=>⟨_,rfl,by simp⟩) rfl I0⟩
theorem Ep {sz cap:Nat}{rows:List (List AV)}{b off:Nat}{c:Array Value}{e:TypeId}{xs:List Value}(hf:fits sz rows=true)(gY:∀r∈rows,AV.aK r=true)(iY:∀r∈rows,AV.dz r=true)(nA:∀r∈rows,AV.ai r=true)
  (dj:b8 w G rows.flatten xs) (h6:w.heap[b]?=some (.cells c e (0,0))) (h7:off+cap*sz<=c.size) (h8:rows.length<=cap) (h9:G.kL b=some (off+rows.length*sz))
  (hx:∀(k:Nat) x,xs[k]?=some x->c[off+k]?=some x):aN w G (.own sz rows) (.slice (some ⟨b,off,none⟩) rows.length cap):=by
 have mG:∀(k:Nat) x,xs[k]?=some x->w.cell? ⟨b,off+k,none⟩=some x:=λk x h=>by simp[World.cell?,h6,hx k x h]
 have key:∀(i:Nat) r (j:Nat) a,rows[i]?=some r->r[j]?=some a->∃v,w.cell? ⟨b,off+(i*sz+j),none⟩=some v/\aN w G a v:=by
  intro i r j a h1 h2
  have h3:=qe rows i j r a (b9.1 hf) h1 h2
  have aV:i*sz+j<xs.length:=by rw[<-dj.1];exact(List.getElem?_eq_some_iff.1 h3).1
  exact⟨_,mG _ _ (List.getElem?_eq_getElem aV),dj.2 _ _ _ h3 (List.getElem?_eq_getElem aV)⟩
 refine .own sz rows ⟨b,off,none⟩ cap rfl h8 hf iY nA gY (λi r j a h1 h2=>?_) (λi r j a v h1 h2 h3=>?_) h9 ⟨c,e,h6,h7⟩
 ·obtain⟨v,h,_⟩:=key i r j a h1 h2;exact⟨v,h⟩
 ·obtain⟨v',h,h'⟩:=key i r j a h1 h2
  rw[h]at h3;cases h3;exact h'
theorem Er {sz cap:Nat}{rows:List (List AV)}{c:Array Value}{e:TypeId}{xs:List Value}{st:an}{bx:aX}(hI:Inv w G st)(hB:jq w G β bx){cO:Nat->Nat}(hw:w'.heap=w.heap.push (.cells c e))(IK:w'.os=w.os)(vr:w'.output=w.output)
  (hf:fits sz rows=true) (gY:∀r∈rows,AV.aK r=true) (iY:∀r∈rows,AV.dz r=true) (nA:∀r∈rows,AV.ai r=true)
  (dj:b8 w G rows.flatten xs) (h7:cap*sz<=c.size) (h8:rows.length<=cap)
  (hx:∀(k:Nat) x,xs[k]?=some x->c[k]?=some x) :
  ∃G',iG w G β st bx cO w' G' β st bx (.val (.own sz rows)) (.slice (some ⟨w.heap.size,0,none⟩) rows.length cap):=by
 refine⟨_,z8 hw IK vr (some (rows.length*sz)) hI hB (Ep hf gY iY nA (dj.push hw _ _) (o9 hw) (by simpa using h7) h8 (by simp[aM.new]) λk x hk=>by rw[Nat.zero_add];exact hx k x hk) λb=>?_⟩
 simp only[eP]
 split
 ·rename_i h;rw[if_pos h.symm];omega
 ·omega
theorem S2 {sz cap:Nat}{rows:List (List AV)}{b off:Nat}{c:Array Value}{e:TypeId}{xs:List Value}(hf:fits sz rows=true)(gY:∀r∈rows,AV.aK r=true)(iY:∀r∈rows,AV.dz r=true)(nA:∀r∈rows,AV.ai r=true)
  (dj:b8 w G rows.flatten xs) (h6:w.heap[b]?=some (.cells c e (0,0))) (h7:off+cap*sz<=c.size) (h8:rows.length<=cap) (h9:G.kL b=some 0)
  (hx:∀(k:Nat) x,xs[k]?=some x->c[off+k]?=some x):aN w G (.raw sz rows) (.slice (some ⟨b,off,none⟩) rows.length cap):=by
 have mG:∀(k:Nat) x,xs[k]?=some x->w.cell? ⟨b,off+k,none⟩=some x:=λk x h=>by simp[World.cell?,h6,hx k x h]
 have key:∀(i:Nat) r (j:Nat) a,rows[i]?=some r->r[j]?=some a->∃v,w.cell? ⟨b,off+(i*sz+j),none⟩=some v/\aN w G a v:=by
  intro i r j a h1 h2
  have h3:=qe rows i j r a (b9.1 hf) h1 h2
  have aV:i*sz+j<xs.length:=by rw[<-dj.1];exact(List.getElem?_eq_some_iff.1 h3).1
  exact⟨_,mG _ _ (List.getElem?_eq_getElem aV),dj.2 _ _ _ h3 (List.getElem?_eq_getElem aV)⟩
 refine .raw sz rows ⟨b,off,none⟩ cap rfl h8 hf iY nA gY (λi r j a h1 h2=>?_) (λi r j a v h1 h2 h3=>?_) h9 ⟨c,e,h6,h7⟩
 ·obtain⟨v,h,_⟩:=key i r j a h1 h2;exact⟨v,h⟩
 ·obtain⟨v',h,h'⟩:=key i r j a h1 h2
  rw[h]at h3;cases h3;exact h'
theorem S3 {sz cap:Nat}{rows:List (List AV)}{c:Array Value}{e:TypeId}{xs:List Value}{st:an}{bx:aX}(hI:Inv w G st)(hB:jq w G β bx){cO:Nat->Nat}(hw:w'.heap=w.heap.push (.cells c e))(IK:w'.os=w.os)(vr:w'.output=w.output)
  (hf:fits sz rows=true) (gY:∀r∈rows,AV.aK r=true) (iY:∀r∈rows,AV.dz r=true) (nA:∀r∈rows,AV.ai r=true)
  (dj:b8 w G rows.flatten xs) (h7:cap*sz<=c.size) (h8:rows.length<=cap)
  (hx:∀(k:Nat) x,xs[k]?=some x->c[k]?=some x) :
  ∃G',iG w G β st bx cO w' G' β st bx (.val (.raw sz rows)) (.slice (some ⟨w.heap.size,0,none⟩) rows.length cap):=by
 refine⟨_,z8 hw IK vr (some 0) hI hB (S2 hf gY iY nA (dj.push hw _ _) (o9 hw) (by simpa using h7) h8 (by simp[aM.new]) λk x hk=>by rw[Nat.zero_add];exact hx k x hk) λb=>?_⟩
 simp only[eP]
 split
 ·rename_i h;rw[if_pos h.symm];omega
 ·omega
theorem Kq {row:List AV}{c:Array Value}{e:TypeId}{st:an}{bx:aX}(hI:Inv w G st)(hB:jq w G β bx){cO:Nat->Nat}(hw:w'.heap=w.heap.push (.cells c e))(IK:w'.os=w.os)(vr:w'.output=w.output)
  {j:Nat} (hj:j<bx.length) (dj:b8 w G row c.toList) (gY:AV.aK row=true) (hc:∀b,bR b row c.toList<=cO b) :
  iG w G β st bx cO w' (G.new w.heap.size (some 0) []) (β.set j ⟨some w.heap.size,c.toList⟩) st (bx.set j row) (.fp j 0) (.pointer (some ⟨w.heap.size,0,none⟩)) where
 iB:=qc hw _ _
 inv:=Kp hw _ hI
 box:=by
  have hB':=AU hw (some 0) [] hB
  refine⟨by simp[hB.len],λi r g h1 h2=>?_⟩
  rw[List.getElem?_set]at h1 h2
  split at h1
  ·rename_i zG;subst zG
   rw[if_pos rfl,if_pos (by rw[hB.len];exact hj)]at h2
   cases h1;cases h2
   refine⟨dj.push hw _ _,gY,.inr ⟨w.heap.size,c,e,rfl,o9 hw,by rw[dj.1];simp,by simp[aM.new],λk x hk=>AX hw (by simpa using hk)⟩⟩
  ·rw[if_neg (by assumption)]at h2
   exact hB'.box i r g h1 h2
 rep:=⟨_,_,by rw[List.getElem?_set,if_pos rfl,if_pos (by rw[hB.len];exact hj)],rfl,rfl⟩
 eP:=λb=>by
  have hjb:j<β.length:=by rw[hB.len];exact hj
  have hg:β[j]?=some β[j]:=List.getElem?_eq_getElem hjb
  have hr:bx[j]?=some bx[j]:=List.getElem?_eq_getElem hj
  have h1:=wU b β bx j _ _ ⟨some w.heap.size,c.toList⟩ row hg hr
  have h2:=hc b
  simp only[cj,aM.new,List.append_nil]
  simp only[Option.some.injEq]at h1
  by_cases hb:w.heap.size=b
  ·subst hb;simp only[if_true]at h1;rw[if_pos (Nat.le_refl _)];omega
  ·rw[if_neg hb]at h1;omega
 tH:=λb _ hb=>fW hw _ _ hb
 size:=by rw[hw];simp
 os:=IK
 out:=vr
theorem Kr {t:TypeId}(ho:o.op=.alloc t){i:TypeInfo}{z:Value}(hi:P.info? t=some i)(hz:i.zero=some z) :
  (execOp ρ o).run P w=.ok (.value (.pointer (some ⟨w.heap.size,0,none⟩))) (w.alloc (.cells z.cells t)):=by
 simp[execOp,ho,Instr.alloc,zeroValue,typeInfo,hi,hz,newVar,newRow]
theorem VF {t:TypeId}{x:Operand}(ho:o.op=.box t x) :
  (execOp ρ o).run P w=.ok (.value (.pointer (some ⟨w.heap.size,0,none⟩))) (w.alloc (.cells (ρ x).cells t)):=by
 simp[execOp,ho,Instr.box,newVar,newRow]
theorem Dl {zero:List AV}(h:∀c∈zero,c.bX=true/\c.au=true)(b:Nat)(xs:List Value):bR b zero xs=0:=
 cW b _ _ ((cm zero).2 λc hc=>(h c hc).1)
theorem L2 {st:an}{bx:aX}(hI:Inv w G st)(hB:jq w G β bx){cO:Nat->Nat}{t:TypeId}{z:Value}{zero:List AV}(dj:b8 w G zero z.cells.toList)(hn:∀c∈zero,c.bX=true/\c.au=true)(hc:AV.aK zero=true) :
  ∃G',iG w G β st bx cO (w.alloc (.cells z.cells t)) G' β (st++[.rows 0 zero.length [zero]]) bx (.val (.ptr st.length 0 0 0)) (.pointer (some ⟨w.heap.size,0,none⟩)):=by
 obtain⟨G',_,h⟩:=tJ (sz:=zero.length) (cap:=1) (rows:=[zero]) (c:=z.cells) (e:=t) (xs:=z.cells.toList) (w':=w.alloc (.cells z.cells t)) (cO:=cO) hI hB rfl rfl rfl (by simp[fits]) (by simpa using hc) (by simpa using dj) (by omega)
  (by rw[dj.1];simp) (by simp) (by simp) (λb=>by simp only[List.flatten_cons,List.flatten_nil,List.append_nil];rw[Dl hn];omega)
 exact⟨G',h⟩
theorem N9 {st:an}{bx:aX}(hI:Inv w G st)(hB:jq w G β bx){cO:Nat->Nat}{t:TypeId}{a:AV}{v:Value}{n:Nat}(hv:aN w G a v)(hn:a.cells.length=n)(hc:AV.aK a.cells=true)(hO:∀b,eP b a v<=cO b) :
  ∃G',iG w G β st bx cO (w.alloc (.cells v.cells t)) G' β (st++[.rows 0 n [a.cells]]) bx (.val (.ptr st.length 0 0 0)) (.pointer (some ⟨w.heap.size,0,none⟩)):=by
 obtain⟨hr,CJ⟩:=hv.cells
 obtain⟨G',_,h⟩:=tJ (sz:=n) (cap:=1) (rows:=[a.cells]) (c:=v.cells) (e:=t) (xs:=v.cells.toList) (w':=w.alloc (.cells v.cells t)) (cO:=cO) hI hB rfl rfl rfl (by simp[fits,hn]) (by simpa using hc) (by simpa using hr) (by omega)
  (by rw[<-hn,hr.1];simp) (by simp) (by simp) (λb=>by simp only[List.flatten_cons,List.flatten_nil,List.append_nil];rw[CJ];exact hO b)
 exact⟨G',h⟩
theorem AY {α:Type}{sz:Nat}:∀(rows:List (List α))(i:Nat)(r:List α),(∀r∈rows,r.length=sz)->r.length=sz->i<rows.length->(rows.set i r).flatten=af rows.flatten (i*sz) r
 |[],_,_,_,_,h=>by simp at h
 |r0::rows,0,r,hf,hr,_=>by
  have h0:r0.length=sz:=hf r0 (by simp)
  have e:=jd (r0++rows.flatten) 0 r (by simp;omega)
  simp only[List.set_cons_zero,List.flatten_cons,Nat.zero_mul]
  rw[e]
  simp[hr,<-h0]
 |r0::rows,i+1,r,hf,hr,h=>by
  have h0:r0.length=sz:=hf r0 (by simp)
  have hf':∀r∈rows,r.length=sz:=λr hr=>hf r (by simp[hr])
  have ih:=AY rows i r hf' hr (by simpa using h)
  have aV:i<rows.length:=by simpa using h
  have hle:i*sz+r.length<=rows.flatten.length:=by
   rw[eI rows hf',hr]
   calc i*sz+sz=(i+1)*sz:=by rw[Nat.succ_mul]
    _<=rows.length*sz:=Nat.mul_le_mul_right _ aV
  have h1:(i+1)*sz=r0.length+i*sz:=by rw[h0,Nat.succ_mul];omega
  simp only[List.set_cons_succ,List.flatten_cons]
  rw[ih,h1,jd (r0++rows.flatten) _ _ (by rw[List.length_append];omega),jd _ _ _ hle,Nat.add_assoc,List.take_append,List.drop_append]
  simp[List.append_assoc,show r0.length+i*sz-r0.length=i*sz by omega,show r0.length+(i*sz+r.length)-r0.length=i*sz+r.length by omega,List.take_of_length_le,List.drop_of_length_le]
theorem vJ {sz:Nat}:∀(qs:List Nat)(vs:List AV)(rows dJ:List (List AV)),(∀r∈rows,r.length=sz)->fG sz rows qs vs=some dJ->
  gO rows.flatten (qs.map λi=>(i*sz,sz)) vs=some dJ.flatten/\(∀r∈dJ,r.length=sz)/\dJ.length=rows.length
 |[],[],rows,dJ,hf,h=>by simp[fG]at h;subst h;exact⟨rfl,hf,rfl⟩
 |[],_::_,_,_,_,h=>by simp[fG]at h
 |_::_,[],_,_,_,h=>by simp[fG]at h
 |i::qs,v::vs,rows,dJ,hf,h=>by
  simp only[fG]at h
  split at h
  ·rename_i hc
   simp only[Bool.and_eq_true,decide_eq_true_eq]at hc
   have hf':∀r∈rows.set i v.cells,r.length=sz:=by
    intro r hr
    rcases List.mem_or_eq_of_mem_set hr with h|h
    ·exact hf r h
    ·rw[h];exact hc.1
   obtain⟨e1,e2,e3⟩:=vJ qs vs _ dJ hf' h
   refine⟨?_,e2,by simpa using e3⟩
   have hle:i*sz+sz<=rows.flatten.length:=by
    rw[eI rows hf]
    calc i*sz+sz=(i+1)*sz:=by rw[Nat.succ_mul]
     _<=rows.length*sz:=Nat.mul_le_mul_right _ hc.2
   simp only[List.map_cons,gO]
   rw[if_pos (by simp only[hc.1,decide_true,Bool.true_and,decide_eq_true_eq];exact hle),<-AY rows i v.cells hf hc.1 hc.2]
   exact e1
  ·cases h
theorem wm (sz n:Nat)(zero:List AV)(hz:zero.length=sz)(dZ:0<sz)(k:Nat)(hk:k<n*sz):(List.replicate n zero).flatten[k]?=zero[k % sz]?:=by
 have hi:k / sz<n:=Nat.div_lt_of_lt_mul (by rw[Nat.mul_comm];exact hk)
 have hj:k % sz<zero.length:=by rw[hz];exact Nat.mod_lt _ dZ
 have h:=qe (sz:=sz) (List.replicate n zero) (k / sz) (k % sz) zero zero[k % sz] (λr hr=>by rw[List.eq_of_mem_replicate hr,hz]) (by rw[List.getElem?_replicate,if_pos hi]) (List.getElem?_eq_getElem hj)
 rw[Nat.mul_comm,Nat.div_add_mod]at h
 rw[h,List.getElem?_eq_getElem hj]
theorem yg {sz n:Nat}{zero:List AV}{z:Array Value}(dj:b8 w G zero z.toList)(hz:zero.length=sz)(dZ:0<sz) :
  b8 w G (List.replicate n zero).flatten (((Array.range (n*sz)).map (z[· % z.size]!)).toList):=by
 have hs:z.size=sz:=by rw[<-hz,dj.1];simp
 refine⟨by rw[eI (sz:=sz) _ (λr hr=>by rw[List.eq_of_mem_replicate hr,hz])];simp,λk c v h1 h2=>?_⟩
 have hk:k<n*sz:=by
  have:=(List.getElem?_eq_some_iff.1 h2).1;simpa using this
 rw[wm sz n zero hz dZ k hk]at h1
 have hm:k % sz<z.size:=by rw[hs];exact Nat.mod_lt _ dZ
 simp only[Array.toList_map,Array.toList_range,List.getElem?_map,List.getElem?_range hk,Option.map_some,Option.some.injEq,hs]at h2
 refine dj.2 _ c v h1 ?_
 rw[<-h2,getElem!_pos z (k % sz) hm]
 simp[hm]
theorem VG {t e:TypeId}{n sz:Nat}{parts:Array (Nat×Operand)}(ho:o.op=.buildSlice t n parts)(hu:P.underlying t=some (.slice e))(dZ:ck P e sz=true)(I1:n*sz<=16777216){zero:List AV}(hz:mK P e zero=true)
  (Ks:0<sz) (Kt:zero.length=sz) {qs:List Nat} (hq:parts.toList.map (·.1)=qs) {vs:List AV} {rows:List (List AV)} (qR:fG sz (List.replicate n zero) qs vs=some rows) (hn:0<n) (hv:b8 w G vs (parts.toList.map λp=>ρ p.2)) :
  ∃cells,(execOp ρ o).run P w=.ok (.value (.slice (some ⟨w.heap.size,0,none⟩) rows.length n)) (w.alloc (.cells cells e))/\b8 w G rows.flatten cells.toList/\(∀b,bR b rows.flatten cells.toList<=bR b vs (parts.toList.map λp=>ρ p.2))/\
   fits sz rows=true/\rows.length=n/\n*sz=cells.size:=by
 obtain⟨i,z,hi,NZ,mC,Ge,_⟩:=kB hz w G
 obtain⟨i',oM,CL,_⟩:=j7 dZ
 rw[hi]at oM;cases oM
 obtain⟨e1,e2,e3⟩:=vJ qs vs _ rows (λr hr=>by rw[List.eq_of_mem_replicate hr,Kt]) qR
 have El:(parts.map λ(x:Nat×Operand)=>(x.1,ρ x.2)).toList.map (·.2)=parts.toList.map λp=>ρ p.2:=by simp[Function.comp_def]
 obtain⟨cells,f1,f2,f3⟩:=Ek (place:=λi=>some (i*sz,sz)) (parts.map λ(x:Nat×Operand)=>(x.1,ρ x.2)).toList _ vs _ _ _ e1 (yg mC Kt Ks) (by rw[El];exact hv) (by
  intro k p q h1 h2
  subst hq
  simp only[Array.toList_map,List.getElem?_map,Option.map_eq_some_iff,List.map_map]at h1 h2
  obtain⟨p',h1,rfl⟩:=h1
  obtain⟨p'',h2,rfl⟩:=h2
  rw[h1]at h2;cases h2
  rfl)
 have rJ:rows.length=n:=by rw[e3];simp
 have hnz:¬n*i.size=0:=by rw[CL];have:=Nat.mul_pos hn Ks;omega
 have:=run_buildSlice w t e n (parts.map λ(x:Nat×Operand)=>(x.1,ρ x.2)) cells i z hu hi NZ (by rw[CL];omega) hnz (by rw[CL];exact f1)
 refine⟨cells,?_,f2,λb=>?_,b9.2 e2,rJ,?_⟩
 ·simp only[execOp,ho,Sem.run_bind,this,Result.andThen_ok,Sem.run_pure,rJ]
 ·have h1:=f3 b
  rw[El]at h1
  have h2:bR b (List.replicate n zero).flatten ((Array.range (n*sz)).map (z.cells[· % z.cells.size]!)).toList=0:=by
   refine cW b _ _ ((cm _).2 λc hc=>?_)
   obtain⟨r,hr,hc⟩:=List.mem_flatten.1 hc
   rw[List.eq_of_mem_replicate hr]at hc
   exact(Ge c hc).1
  omega
 ·have:=f2.1
  rw[eI rows e2,rJ]at this
  simpa using this
theorem Gl {t e:TypeId}{x y:Operand}(ho:o.op=.makeSlice t x y)(hu:P.underlying t=some (.slice e)){sz bytes:Nat}(dZ:ck P e sz=true)(S4:nh P e bytes=true){zero:List AV}(hz:mK P e zero=true)(Ks:0<sz)(Kt:zero.length=sz)
  {n c:Int} (hx:ρ x=.int .i64 n) (hy:ρ y=.int .i64 c) (h0:0<=n) (h1:n<=c) (h2:c*bytes<=room) (h3:c<=9223372036854775807) :
  ∃cells,(execOp ρ o).run P w=.ok (.value (.slice (some ⟨w.heap.size,0,none⟩) n.toNat c.toNat)) (w.alloc (.cells cells e))/\cells.size=c.toNat*sz/\
   b8 w G (List.replicate n.toNat zero).flatten (cells.toList.take (n.toNat*sz))/\∀b xs,bR b (List.replicate n.toNat zero).flatten xs=0:=by
 obtain⟨i,z,hi,NZ,mC,Ge,_⟩:=kB hz w G
 obtain⟨i',oM,CL,_⟩:=j7 dZ
 rw[hi]at oM;cases oM
 have hb:i.bytes=bytes:=by simpa [nh,hi] using S4
 have:=run_make (P:=P) w t e i z hu hi NZ .i64 .i64 n c h0 h1 (by rw[hb,Int.mul_comm];simp only[room]at h2;omega) h3
 refine⟨madeCells z.cells (c.toNat*i.size),by simp only[execOp,ho,hx,hy,Sem.run_bind,this,Result.andThen_ok,Sem.run_pure],by rw[size_madeCells,CL],?_,λb xs=>?_⟩
 ·have hle:n.toNat*sz<=c.toNat*sz:=Nat.mul_le_mul_right _ (by omega)
  have h:=yg (w:=w) (G:=G) (n:=c.toNat) mC Kt Ks
  have h':=h.take (n.toNat*sz)
  rw[CL]
  unfold madeCells
  have e:(List.replicate c.toNat zero).flatten.take (n.toNat*sz)=(List.replicate n.toNat zero).flatten:=by
   have:c.toNat=n.toNat+(c.toNat-n.toNat):=by omega
   rw[this,<-List.replicate_append_replicate,List.flatten_append,List.take_left']
   exact eI (sz:=sz) _ (λr hr=>by rw[List.eq_of_mem_replicate hr,Kt]) |>.trans (by simp)
  rw[e]at h'
  exact h'
 ·refine cW b _ _ ((cm _).2 λc hc=>?_)
  obtain⟨r,hr,hc⟩:=List.mem_flatten.1 hc
  rw[List.eq_of_mem_replicate hr]at hc
  exact(Ge c hc).1
theorem S5 {st:an}{bx:aX}(hI:Inv w G st)(hB:jq w G β bx){cO:Nat->Nat}:∃G',iG w G β st bx cO (w.alloc (.map #[] 0)) G' β (st++[.map []]) bx (.val (.map st.length)) (.map (some w.heap.size)):=by
 have hl:(G.new w.heap.size (some 0) [⟨some ⟨w.heap.size,0,none⟩,1,0,0,0,true,[]⟩]).ls[st.length]?=some ⟨some ⟨w.heap.size,0,none⟩,1,0,0,0,true,[]⟩:=by
  simp only[aM.new]
  rw[List.getElem?_append_right (by rw[hI.len];exact Nat.le_refl _),hI.len]
  simp
 refine⟨_,qd (loc:=⟨some ⟨w.heap.size,0,none⟩,1,0,0,0,true,[]⟩) (ao:=.map []) (w':=w.alloc (.map #[] 0)) (ob:=.map #[] 0) rfl rfl rfl hI hB ⟨rfl,rfl,w.heap.size,#[],0,rfl,o9 rfl,by simp[aM.new],rfl,λi k v e h=>by simp at h⟩ (.map _ _ _ hl rfl rfl) rfl λb=>?_⟩
 simp only[gz,Loc.iZ]
 by_cases hb:b=w.heap.size
 ·subst hb;simp
 ·simp[hb];rw[if_neg λh=>hb h.symm];omega
end Ax
namespace Ax
open Go
variable {P:Program}{w w':World}{G G':aM}{β fQ:List k8}{ρ:Operand->Value}{o:Oper}
theorem nC {α:Type}{sz:Nat}:∀(rows:List (List α))(k:Nat)(c:α),(∀r∈rows,r.length=sz)->rows.flatten[k]?=some c->∃i j r,k=i*sz+j/\rows[i]?=some r/\r[j]?=some c
 |[],k,c,_,h=>by simp at h
 |r0::rows,k,c,hf,h=>by
  have h0:r0.length=sz:=hf r0 (by simp)
  simp only[List.flatten_cons]at h
  by_cases hk:k<r0.length
  ·rw[List.getElem?_append_left hk]at h
   exact⟨0,k,r0,by simp,rfl,h⟩
  ·rw[List.getElem?_append_right (by omega)]at h
   obtain⟨i,j,r,e1,e2,e3⟩:=nC rows _ c (λr hr=>hf r (by simp[hr])) h
   exact⟨i+1,j,r,by rw[Nat.succ_mul];omega,by simpa using e2,e3⟩
theorem rK:∀(rows:List (List AV))(vals:List (List Value)),rows.length=vals.length->(∀(i:Nat) r xs,rows[i]?=some r->vals[i]?=some xs->b8 w G r xs)->b8 w G rows.flatten vals.flatten
 |[],[],_,_=>⟨rfl,λi c v h=>by simp at h⟩
 |[],_::_,h,_=>by simp at h
 |_::_,[],h,_=>by simp at h
 |r::rows,x::vals,hl,h=>by
  obtain⟨a1,a2⟩:=h 0 r x rfl rfl
  obtain⟨b1,b2⟩:=rK rows vals (by simpa using hl) λi r xs h1 h2=>h (i+1) r xs (by simpa using h1) (by simpa using h2)
  refine⟨by simp only[List.flatten_cons,List.length_append,a1,b1],λi c v h1 h2=>?_⟩
  simp only[List.flatten_cons]at h1 h2
  by_cases hi:i<r.length
  ·rw[List.getElem?_append_left hi]at h1
   rw[List.getElem?_append_left (by omega)]at h2
   exact a2 i c v h1 h2
  ·rw[List.getElem?_append_right (by omega)]at h1
   rw[List.getElem?_append_right (by omega),<-a1]at h2
   exact b2 _ c v h1 h2
theorem wX (b:Nat):∀(rows:List (List AV))(vals:List (List Value)),rows.length=vals.length->(∀(i:Nat) r xs,rows[i]?=some r->vals[i]?=some xs->r.length=xs.length)->bR b rows.flatten vals.flatten=eX b rows vals
 |[],[],_,_=>rfl
 |[],_::_,h,_=>by simp at h
 |_::_,[],h,_=>by simp at h
 |r::rows,x::vals,hl,h=>by
  simp only[List.flatten_cons,eX]
  rw[eW b r _ x _ (h 0 r x rfl rfl),wX b rows vals (by simpa using hl) λi r xs h1 h2=>h (i+1) r xs (by simpa using h1) (by simpa using h2)]
theorem b8.append {as bs:List AV}{xs ys:List Value}(h:b8 w G as xs)(k:b8 w G bs ys):b8 w G (as++bs) (xs++ys):=by
 refine⟨by simp[h.1,k.1],λi c v h1 h2=>?_⟩
 by_cases hi:i<as.length
 ·rw[List.getElem?_append_left hi]at h1
  rw[List.getElem?_append_left (by rw[<-h.1];exact hi)]at h2
  exact h.2 i c v h1 h2
 ·rw[List.getElem?_append_right (by omega)]at h1
  rw[List.getElem?_append_right (by rw[<-h.1];omega),<-h.1]at h2
  exact k.2 _ c v h1 h2
theorem Gm {sz:Nat}{rows:List (List AV)}{a:Addr}{n cap:Nat}(h:aN w G (.cU sz rows) (.slice (some a) n cap)) :
  n=rows.length/\a.spot=none/\fits sz rows=true/\(∀r∈rows,AV.dz r=true)/\(∀r∈rows,AV.ai r=true)/\(∀r∈rows,AV.aK r=true)/\
  ∃xs:List Value,b8 w G rows.flatten xs/\∀(k:Nat) x,xs[k]?=some x->w.cell? ⟨a.block,a.off+k,none⟩=some x:=by
 cases h with
 |cU _ _ _ _ ot eS bn iY nA uD hc hr=>
 refine⟨rfl,ot,bn,iY,nA,uD,(List.range rows.flatten.length).map λk=>(w.cell? ⟨a.block,a.off+k,none⟩).getD undef,⟨by simp,λk c v h1 h2=>?_⟩,λk x h=>?_⟩
 ·obtain⟨i,j,r,rfl,e2,e3⟩:=nC rows k c (b9.1 bn) h1
  obtain⟨_,y,hy⟩:=hc i r j c e2 e3
  have hk:=(List.getElem?_eq_some_iff.1 h1).1
  rw[List.getElem?_map,List.getElem?_range hk,Option.map_some,hy]at h2
  cases h2
  exact hr i r j c y e2 e3 hy
 ·have hk:k<rows.flatten.length:=by have:=(List.getElem?_eq_some_iff.1 h).1;simpa using this
  rw[List.getElem?_map,List.getElem?_range hk,Option.map_some]at h
  obtain⟨i,j,r,rfl,e2,e3⟩:=nC rows k _ (b9.1 bn) (List.getElem?_eq_getElem hk)
  obtain⟨_,y,hy⟩:=hc i r j _ e2 e3
  rw[hy]at h ⊢
  simpa using h
theorem yZ (a:AV):a.view.cw=a.cw:=by cases a<;>simp[AV.view,AV.cw]
theorem pe:∀(cs:List AV),AV.aK (AV.cz cs)=AV.aK cs
 |[]=>rfl
 |c::cs=>by
  have:=pe cs
  simp only[AV.aK]at this
  simp only[AV.cz,AV.aK,List.all_cons,yZ,this]
theorem vK:∀(rows:List (List AV)),(rows.map AV.cz).flatten=AV.cz rows.flatten
 |[]=>rfl
 |r::rows=>by
  have afT:∀a b:List AV,AV.cz (a++b)=AV.cz a++AV.cz b:=by
   intro a b
   induction a with
   |nil=>rfl
   |cons x a ih=>simp only[List.cons_append,AV.cz,ih]
  simp only[List.map_cons,List.flatten_cons,afT,vK rows]
theorem Dm (l:List UInt8):(ee l).flatten=l.map λb=>AV.int .u8 b.toNat:=by
 unfold ee
 induction l with
 |nil=>rfl
 |cons b l ih=>simp only[List.map_cons,List.flatten_cons,ih];rfl
theorem uK {st:an}(hI:Inv w G st){a:AV}{v:Value}{rows:List (List AV)}(h:aN w G a v)(hb:dy st a=some rows){sz:Nat}(hf:fits sz rows=true){tx:TypeId}
  (hk:(∃e',P.underlying tx=some (.slice e'))\/P.underlying tx=some .string) :
  ∃xs,b8 w G rows.flatten xs/\Go.Src P sz tx v rows.length xs w/\(∀r∈rows,AV.aK r=true)/\(∀r∈rows,AV.dz r=true)/\((∀id bU,a≠.mu id bU)->∀r∈rows,AV.ai r=true):=by
 have slice:∀(ad:Addr) (c:Nat) (xs:List Value),ad.spot=none->b8 w G rows.flatten xs->(∀(k:Nat) x,xs[k]?=some x->w.cell? ⟨ad.block,ad.off+k,none⟩=some x)->(∀r∈rows,AV.aK r=true)->
   Go.Src P sz tx (.slice (some ad) rows.length c) rows.length xs w:=by
  intro ad c xs ot dj hx gY
  have hl:xs.length=rows.length*sz:=by rw[<-dj.1];exact eI rows (b9.1 hf)
  obtain⟨bl,of,sp⟩:=ad
  simp only at ot hx
  subst ot
  have VD:∀j u,xs[j]?=some u->w.cell? ((⟨bl,of,none⟩:Addr).add j)=some u:=λj u h=>by rw[j9];exact hx j u h
  have Oa:∀u∈xs,u.oneCell'=true:=dj.SQ (by
   simp only[AV.aK,List.all_eq_true]
   intro c hc
   obtain⟨r,hr,hc⟩:=List.mem_flatten.1 hc
   have:=gY r hr
   simp only[AV.aK,List.all_eq_true]at this
   exact this c hc)
  exact⟨hk,λ_=>rfl,run_firstCells_some w sz rows.length ⟨bl,of,none⟩ rows.length c xs hl VD,run_firstCells_some w.drew sz rows.length ⟨bl,of,none⟩ rows.length c xs hl (by simpa using VD),hl,Oa⟩
 have cU:∀s,aN w G (.cU s rows) v->∃xs,b8 w G rows.flatten xs/\Go.Src P sz tx v rows.length xs w/\(∀r∈rows,AV.aK r=true)/\(∀r∈rows,AV.dz r=true)/\((∀id bU,a≠.mu id bU)->∀r∈rows,AV.ai r=true):=by
  intro s h
  have h0:∃a n c,v=.slice (some a) n c:=by cases h;exact⟨_,_,_,rfl⟩
  obtain⟨ad,n,c,rfl⟩:=h0
  obtain⟨e1,e2,e3,e4,e5,e6,xs,e7,e8⟩:=Gm h
  subst e1
  exact⟨xs,e7,slice ad c xs e2 e7 e8 e6,e6,e4,λ_=>e5⟩
 have VH:rows=[]->∀c,v=.slice none 0 c->∃xs,b8 w G rows.flatten xs/\Go.Src P sz tx v rows.length xs w/\(∀r∈rows,AV.aK r=true)/\(∀r∈rows,AV.dz r=true)/\((∀id bU,a≠.mu id bU)->∀r∈rows,AV.ai r=true):=by
  intro h0 c hv
  subst h0;subst hv
  exact⟨[],⟨rfl,λi c v h=>by simp at h⟩,⟨hk,λ_=>rfl,run_firstCells_none w sz 0 0 c,run_firstCells_none w.drew sz 0 0 c,by simp,λu hu=>by cases hu⟩,by simp,by simp,by simp⟩
 unfold dy at hb
 split at hb
 ·rename_i l
  cases hb
  obtain⟨s,rfl,rfl⟩:=h.k5
  refine⟨byteCells s,?_,?_,?_,?_,?_⟩
  ·rw[Dm]
   unfold byteCells
   refine⟨by simp,λi c v h1 h2=>?_⟩
   simp only[List.getElem?_map,Option.map_eq_some_iff]at h1 h2
   obtain⟨b,h1,rfl⟩:=h1
   obtain⟨b',h2,rfl⟩:=h2
   rw[h1]at h2;cases h2
   exact .int _ _
  ·have hlen:(ee s.data.toList).length=s.size:=by simp[ee]
   rw[hlen]
   have one:∀u∈byteCells s,u.oneCell'=true:=λu hu=>by
    obtain⟨_,_,rfl⟩:=List.mem_map.1 hu
    rfl
   by_cases hs:sz=1
   ·subst hs
    exact⟨hk,λ_=>rfl,firstCells_string s w,firstCells_string s w.drew,by rw[byteCells_length,Nat.mul_one],one⟩
   ·have h0:s.size=0:=by
     rcases Nat.eq_zero_or_pos s.size with h|h
     ·exact h
     ·have h2:s.data.toList≠[]:=by
       intro h3
       have:s.data.toList.length=s.size:=by simp
       rw[h3]at this;simp at this;omega
      obtain⟨b,l,hl⟩:=List.exists_cons_of_ne_nil h2
      rw[hl]at hf
      simp[fits,ee]at hf
      exact absurd hf.1.symm hs
    have yh:byteCells s=[]:=by
     apply List.eq_nil_of_length_eq_zero
     rw[byteCells_length,h0]
    have S6:∀w',(Builtin.firstCells sz s.size (.string s)).run P w'=.ok (byteCells s).toArray w':=λw'=>firstCells_string s w'
    exact⟨hk,λ_=>rfl,S6 w,S6 w.drew,by rw[yh,h0,Nat.zero_mul];rfl,one⟩
  all_goals
   intros
   rename_i hr
   simp only[ee,List.mem_map]at hr
   obtain⟨b,_,rfl⟩:=hr
   simp[AV.aK,AV.cw,AV.dz,AV.bX,AV.ai,AV.au]
 ·rename_i id bU
  split at hb
  ·rename_i dJ hr
   cases hb
   simp only[rowsOf]at hr
   split at hr
   ·rename_i v' s afU fm
    split at hr
    ·rename_i hv
     cases hr
     obtain⟨loc,hl,yU,yV,gi⟩:=hI.loc fm
     cases h with
     |mu _ _ _ loc' hp nR CH he=>
      rw[hl]at nR;cases nR
      have hve:bU=loc.bU:=by omega
      have cx:=he hve
      rw[gi.len]at cx
      have gY:∀r∈dJ.map AV.cz,AV.aK r=true:=λr hr=>by
       obtain⟨r',vu,rfl⟩:=List.mem_map.1 hr
       rw[pe];exact gi.z6 r' vu
      have iY:∀r∈dJ.map AV.cz,AV.dz r=true:=λr hr=>by
       obtain⟨r',vu,rfl⟩:=List.mem_map.1 hr
       exact fJ r'
      rcases gi.nS with⟨h0,qx,_⟩|⟨b,off,c,e',IX,eS,eH,hle,hlen,gx,dh⟩
      ·subst qx
       simp only[List.length_nil]at cx
       cases abo:loc.a with
       |none=>
        rw[abo]at cx
        exact VH (by simp) _ cx
       |some ad=>
        refine⟨[],⟨rfl,λi c v h=>by simp at h⟩,⟨hk,λ_=>by rw[cx];simp[Builtin.lenOf],?_,?_,by simp,by simp⟩,gY,iY,λh=>absurd rfl (h id bU)⟩
        all_goals
         rw[cx,abo]
         simp[Builtin.firstCells,loadCells,loadCellsFrom]
      ·rw[IX]at cx
       subst cx
       have dj:b8 w G (dJ.map AV.cz).flatten loc.vals.flatten:=by
        rw[vK]
        exact(rK dJ loc.vals gi.qv.symm gi.qP).view
       have Ku:∀r∈loc.vals,r.length=s:=λr hr=>by
        obtain⟨i,hi,rfl⟩:=List.mem_iff_getElem.1 hr
        have oM:i<dJ.length:=by rw[<-gi.qv];exact hi
        rw[<-(gi.qP i dJ[i] loc.vals[i] (List.getElem?_eq_getElem oM) (List.getElem?_eq_getElem hi)).1]
        exact b9.1 gi.fit _ (List.getElem_mem oM)
       have:=slice ⟨b,off,none⟩ loc.cap loc.vals.flatten rfl dj (λk x hx=>by
        obtain⟨i,j,r,rfl,e2,e3⟩:=nC loc.vals k x Ku hx
        exact dh i r j x e2 e3) gY
       simp only[List.length_map]at this ⊢
       exact⟨_,dj,this,gY,iY,λh=>absurd rfl (h id bU)⟩
    ·cases hr
   ·cases hr
  ·cases hb
 ·rename_i hn1 hn2
  unfold rowsOf at hb
  split at hb
  ·cases hb;cases h;exact VH rfl _ rfl
  ·cases hb;cases h
   rename_i ad
   refine⟨[],⟨rfl,λi c v h=>by simp at h⟩,⟨hk,λ_=>rfl,?_,?_,by simp,by simp⟩,by simp,by simp,by simp⟩
   all_goals simp[Builtin.firstCells,loadCells,loadCellsFrom]
  ·cases hb;exact cU _ h
  ·cases hb;exact cU _ h.view
  ·rename_i id bU
   exact absurd rfl (hn2 id bU)
  ·cases hb
end Ax
namespace Ax
open Go
variable {P:Program}{w w':World}{G G':aM}{β fQ:List k8}{ρ:Operand->Value}{o:Oper}
theorem fZ (g p:Nat)(t:TypeId)(vs:List Value)(cur:Array Value)(w:World)(hg:w.heap[g]?=some (.cells cur t (0,0)))(hl:p+vs.length<=cur.size)(h1:∀v∈vs,v.oneCell'=true) :
  (storeCells ⟨g,p,none⟩ vs).run P w=.ok () (w.setRow g (af cur.toList p vs).toArray):=by
 have:=run_storeCells_at P g p t vs 0 cur w hg (by simpa using hl) h1
 rw[jd _ _ _ (by simpa using hl)]
 simpa using this
structure Wr (w:World)(G:aM)(w':World)(G':aM)(b:Nat):Prop where
 size:w'.heap.size=w.heap.size
 heap:∀b',b'≠b->w'.heap[b']?=w.heap[b']?
 S7:∀b',b'≠b->G'.kL b'=G.kL b'
 kL:∃p p',G.kL b=some p/\G'.kL b=some p'/\p<=p'/\∀o,o<p->w'.cell? ⟨b,o,none⟩=w.cell? ⟨b,o,none⟩
 ids:∀(id:Nat) loc,G.ls[id]?=some loc->∃loc',G'.ls[id]?=some loc'/\loc.bU<=loc'.bU/\(loc.bU=loc'.bU\/loc.mp=true->loc'.hd=loc.hd)
theorem Wr.iB {b:Nat}(h:Wr w G w' G' b):qa w G w' G' where
 NR:=λb' o hi=>by
  by_cases hb:b'=b
  ·subst hb
   obtain⟨p,p',h1,h2,h3,h4⟩:=h.kL
   have ho:=hi.2 p h1
   refine⟨h4 o ho,by rw[h.size];exact hi.1,λq hq=>?_⟩
   rw[h2]at hq;cases hq;omega
  ·refine⟨ou (h.heap b' hb),by rw[h.size];exact hi.1,λp hp=>?_⟩
   rw[h.S7 b' hb]at hp
   exact hi.2 p hp
 ids:=h.ids
theorem Wr.iD {b b':Nat}(h:Wr w G w' G' b)(hb:b'≠b):dH w G w' G' b':=⟨h.S7 b' hb,h.heap b' hb⟩
theorem AZ (G:aM):∀(id:Nat) loc,G.ls[id]?=some loc->∃loc',G.ls[id]?=some loc'/\loc.bU<=loc'.bU/\(loc.bU=loc'.bU\/loc.mp=true->loc'.hd=loc.hd):=λ_ loc h=>⟨loc,h,Nat.le_refl _,λ_=>rfl⟩
def aM.at (G:aM)(id:Nat)(loc:Loc):aM:=⟨G.ls.set id loc,G.kL⟩
theorem A2 {id:Nat}{loc loc':Loc}(hl:G.ls[id]?=some loc)(hv:loc.bU<=loc'.bU)(hh:loc.bU=loc'.bU\/loc.mp=true->loc'.hd=loc.hd):∀(i:Nat) l,G.ls[i]?=some l->∃l',(G.at id loc').ls[i]?=some l'/\l.bU<=l'.bU/\(l.bU=l'.bU\/l.mp=true->l'.hd=l.hd):=by
 intro i l h
 by_cases hi:i=id
 ·subst hi
  rw[hl]at h;cases h
  exact⟨loc',by simp only[aM.at];rw[List.getElem?_set,if_pos rfl,if_pos (List.getElem?_eq_some_iff.1 hl).1],hv,hh⟩
 ·exact⟨l,by simp only[aM.at];rw[List.getElem?_set,if_neg (λe=>hi e.symm)];exact h,Nat.le_refl _,λ_=>rfl⟩
theorem I2 {id:Nat}{loc loc':Loc}(hl:G.ls[id]?=some loc)(hv:loc.bU<=loc'.bU)(hh:loc.bU=loc'.bU\/loc.mp=true->loc'.hd=loc.hd):qa w G w (G.at id loc'):=
 ⟨λ_ _ h=>⟨rfl,h⟩,A2 hl hv hh⟩
theorem z9 {st:an}(hI:Inv w G st)(hs:qa w G w' G'){id:Nat}{loc':Loc}{F0:fB}(I3:G'.ls=G.ls.set id loc')(hu:∀(i:Nat) l ob b,i≠id->G.ls[i]?=some l->st[i]?=some ob->0<gz b l ob->dH w G w' G' b)
  (ov:nT w' G' F0 loc') (ht:∀b p,G'.kL b=some p->b<w'.heap.size):Inv w' G' (st.set id F0) where
 len:=by rw[I3];simp[hI.len]
 obj:=λi ob loc h1 h2=>by
  rw[I3]at h2
  rw[List.getElem?_set]at h1 h2
  by_cases hi:id=i
  ·subst hi
   rw[if_pos rfl]at h1 h2
   split at h1
   ·split at h2
    ·cases h1;cases h2;exact ov
    ·cases h2
   ·cases h1
  ·rw[if_neg hi]at h1 h2
   exact(hI.obj i ob loc h1 h2).iB hs λb hb=>hu i loc ob b (λe=>hi e.symm) h2 h1 hb
 k9:=ht
theorem tK {st:an}(hI:Inv w G st)(hs:qa w G w' G')(I3:G'.ls=G.ls)(hu:∀b,0<bY b G.ls st->dH w G w' G' b)(ht:∀b p,G'.kL b=some p->b<w'.heap.size):Inv w' G' st where
 len:=by rw[I3];exact hI.len
 obj:=λi ob loc h1 h2=>by
  rw[I3]at h2
  refine(hI.obj i ob loc h1 h2).iB hs λb hb=>hu b ?_
  have:=lX b G.ls st i loc ob h2 h1
  omega
 k9:=ht
theorem lA {bx:aX}(hB:jq w G β bx)(hs:qa w G w' G')(hu:∀b,0<fC b β bx->dH w G w' G' b):jq w' G' β bx where
 len:=hB.len
 box:=λj row g h1 h2=>(hB.box j row g h1 h2).iB hs λb hb=>hu b (by
  have:=lY b β bx j g row h2 h1
  omega)
theorem Wr.k9 {b:Nat}{st:an}(h:Wr w G w' G' b)(hI:Inv w G st):∀b p,G'.kL b=some p->b<w'.heap.size:=by
 intro b' p hp
 rw[h.size]
 by_cases hb:b'=b
 ·subst hb
  obtain⟨q,q',h1,_⟩:=h.kL
  exact hI.k9 _ _ h1
 ·rw[h.S7 b' hb]at hp
  exact hI.k9 _ _ hp
theorem A3 {b p p':Nat}{cur:Array Value}{e:TypeId}{q:Nat}{vs:List Value}{ls:List Loc}(hg:w.heap[b]?=some (.cells cur e (0,0)))(hl:q+vs.length<=cur.size)(ht:G.kL b=some p)(Sl:p<=q)(hpp:p<=p')
  (CU:∀(id:Nat) loc,G.ls[id]?=some loc->∃loc',ls[id]?=some loc'/\loc.bU<=loc'.bU/\(loc.bU=loc'.bU\/loc.mp=true->loc'.hd=loc.hd)) :
  Wr w G (w.setRow b (af cur.toList q vs).toArray) ⟨ls,λb'=>if b'=b then some p' else G.kL b'⟩ b where
 size:=setRow_size _ _ _
 heap:=λb' hb=>setRow_other w b b' _ hb
 S7:=λb' hb=>by simp[hb]
 kL:=⟨p,p',ht,by simp,hpp,λo ho=>by
  rw[cell_setRow_same w b o cur _ e (0,0) hg]
  have:w.cell? ⟨b,o,none⟩=cur[o]?:=by simp[World.cell?,hg]
  rw[this,List.getElem?_toArray,iC _ _ _ _ (by simpa using hl),if_neg (by omega)]
  simp⟩
 ids:=CU
theorem qf {b q k:Nat}{cur:Array Value}{e:TypeId}{vs:List Value}(hg:w.heap[b]?=some (.cells cur e (0,0)))(hl:q+vs.length<=cur.size) :
  (w.setRow b (af cur.toList q vs).toArray).cell? ⟨b,k,none⟩=if q<=k/\k<q+vs.length then vs[k-q]? else w.cell? ⟨b,k,none⟩:=by
 rw[cell_setRow_same w b k cur _ e (0,0) hg]
 have:w.cell? ⟨b,k,none⟩=cur[k]?:=by simp[World.cell?,hg]
 rw[this,List.getElem?_toArray,iC _ _ _ _ (by simpa using hl)]
 simp
structure I4 (P:Program)(t tx e:TypeId)(sz bytes:Nat)(i:TypeInfo)(z:Value):Prop where
 ht:P.underlying t=some (.slice e)
 hi:P.info? e=some i
 hz:i.zero=some z
 dZ:i.size=sz
 S4:i.bytes=bytes
 NY:z.cells.size=sz
 pos:0<sz
 Ob:0<bytes
 kind:(∃e',P.underlying tx=some (.slice e'))\/P.underlying tx=some .string
theorem Kv {n bytes:Nat}(h:n*bytes<=140737488355328)(hb:0<bytes):((n:Nat):Int)<=9223372036854775807:=by
 have:n<=n*bytes:=Nat.le_mul_of_pos_right n hb
 omega
theorem pg {t tx ty e:TypeId}{sz bytes:Nat}{i:TypeInfo}{z:Value}(h:I4 P t tx e sz bytes i z)(b off fO jz:Nat)(cur:Array Value)(e0:TypeId)(hg:w.heap[b]?=some (.cells cur e0 (0,0)))(x:Value)(n:Nat)(news:List Value)(hs:Go.Src P sz tx x n news w)
  (mH:fO+n<=jz) (bn:off+jz*sz<=cur.size) :
  (Builtin.append_ #[t,tx] ty #[.slice (some ⟨b,off,none⟩) fO jz,x]).run P w=.ok (.slice (some ⟨b,off,none⟩) (fO+n) jz) (w.setRow b (af cur.toList (off+fO*sz) news).toArray):=by
 have hle:off+fO*sz+news.length<=cur.size:=by
  rw[hs.newsLen]
  have:(fO+n)*sz<=jz*sz:=Nat.mul_le_mul_right _ mH
  rw[Nat.add_mul]at this
  omega
 have fm:=fZ (P:=P) b (off+fO*sz) e0 news cur w hg hle hs.one
 have hc:=hs.cells
 have dZ:=h.dZ
 subst dZ
 rcases hs.kind with⟨e',hk⟩|hk<;>simp[Builtin.append_,run_underlying h.ht,run_underlying hk,Go.sizeOf,typeInfo,h.hi,hs.len,mH,hc,Addr.add_lit,fm]
theorem pq {t tx ty e:TypeId}{sz bytes:Nat}{i:TypeInfo}{z:Value}(h:I4 P t tx e sz bytes i z)(base:Option Addr)(fO jz:Nat)(olds:List Value)
  (hold:(Builtin.firstCells sz fO (.slice base fO jz)).run P w.drew=.ok olds.toArray w.drew) (Ny:olds.length=fO*sz) (x:Value) (n:Nat) (news:List Value) (hs:Go.Src P sz tx x n news w)
  (hg:jz<fO+n) (hb:(fO+n)*bytes<=140737488355328) :
  ∃cap c,(Builtin.append_ #[t,tx] ty #[.slice base fO jz,x]).run P w=.ok (.slice (some ⟨w.heap.size,0,none⟩) (fO+n) cap) (w.drew.alloc (.cells c e))/\fO+n<=cap/\cap*sz<=c.size/\
   ∀(k:Nat) v,(olds++news)[k]?=some v->c[k]?=some v:=by
 have dZ:=h.dZ
 subst dZ
 have S4:=h.S4
 subst S4
 refine⟨_,_,run_append_grow_src w t tx ty e i z h.ht h.hi h.hz base fO jz olds hold x n news hs hg (Kv hb h.Ob) (growslice_fits hg hb),grownCap_ge _ _ _ _,?_,λk v hv=>?_⟩
 ·have h1:=grownCap_ge w (fO+n) jz e
  rw[Array.size_append,size_zeroCells,h.NY]
  simp only[List.size_toArray,List.length_append,Ny,hs.newsLen]
  rw[<-Nat.add_mul,<-Nat.add_mul]
  exact Nat.mul_le_mul_right _ (by omega)
 ·have hk:=(List.getElem?_eq_some_iff.1 hv).1
  rw[Array.getElem?_append,if_pos (by simpa using hk)]
  simpa using hv
theorem Dn (a:Addr):w.drew.cell? a=w.cell? a:=rfl
theorem b8.CV {rows:List (List AV)}(h:∀r∈rows,AV.aK r=true):AV.aK rows.flatten=true:=by
 simp only[AV.aK,List.all_eq_true]
 intro c hc
 obtain⟨r,hr,hc⟩:=List.mem_flatten.1 hc
 have:=h r hr
 simp only[AV.aK,List.all_eq_true]at this
 exact this c hc
theorem tL {sz:Nat}{a b:List (List AV)}(h:fits sz a=true)(k:fits sz b=true):fits sz (a++b)=true:=by
 rw[b9]at *
 intro r hr
 rcases List.mem_append.1 hr with h'|h'
 ·exact h r h'
 ·exact k r h'
theorem ni {a b:List (List AV)}{p:List AV->Prop}(h:∀r∈a,p r)(k:∀r∈b,p r):∀r∈a++b,p r:=by
 intro r hr
 rcases List.mem_append.1 hr with h'|h'
 ·exact h r h'
 ·exact k r h'
theorem Oc {t tx ty e:TypeId}{sz bytes:Nat}{i:TypeInfo}{z:Value}(h:I4 P t tx e sz bytes i z){st:an}{bx:aX}(hI:Inv w G st)(hB:jq w G β bx){cO:Nat->Nat}(hX:∀b,cO b+fC b β bx+bY b G.ls st<=1)
  {s x:AV} {vs vx:Value} (hs:aN w G s vs) (hx:aN w G x vx) (mI:∀b,eP b s vs<=cO b) {wl aa:Nat} {bP:an} {eR:aX} {r:dX} (ha:aL wl aa (.append sz bytes) [.val s,.val x] st bx=some (r,bP,eR)) :
  ∃v w' G',(Builtin.append_ #[t,tx] ty #[vs,vx]).run P w=.ok v w'/\iG w G β st bx cO w' G' β bP eR r v:=by
 simp only[aL]at ha
 split at ha
 ·cases ha
 ·rename_i new ov
  split at ha
  ·rename_i bn
   have hnm:∀id bU,x≠.mu id bU:=by
    intro id bU hx;subst hx;simp[dy,rowsOf]at ov
   have abp:dy st x=some new:=by
    unfold dy at ov ⊢
    cases x<;>simp_all [rowsOf]
   obtain⟨news,dj,mD,gY,iY,nA⟩:=uK hI hx abp bn h.kind
   have nA:=nA hnm
   have fresh:∀base,(Builtin.firstCells sz 0 (.slice base 0 0)).run P w.drew=.ok ([]:List Value).toArray w.drew->new≠[]->new.length*bytes<=room->
     ∃v w' G',(Builtin.append_ #[t,tx] ty #[.slice base 0 0,vx]).run P w=.ok v w'/\iG w G β st bx cO w' G' β st bx (.val (.own sz new)) v:=by
    intro base hf iQ hr
    have hn:0<new.length:=List.length_pos_iff.2 iQ
    obtain⟨cap,c,e1,e2,e3,e4⟩:=pq (ty:=ty) h base 0 0 [] hf (by simp) vx new.length news mD (by omega) (by simpa [room] using hr)
    simp only[Nat.zero_add,List.nil_append]at e1 e2 e4
    obtain⟨G',hA⟩:=Er (w':=w.drew.alloc (.cells c e)) (cO:=cO) hI hB rfl rfl rfl bn gY iY nA dj e3 e2 e4
    exact⟨_,_,G',e1,hA⟩
   split at ha
   ·split at ha
    ·rename_i yl
     cases ha
     have h0:new=[]:=by simpa using yl
     subst h0
     cases hs
     have hn:news=[]:=by
      have:=dj.1;simp at this;exact List.eq_nil_of_length_eq_zero this.symm
     subst hn
     have:=run_append_nothing w t tx ty e i h.ht h.hi none 0 0 (Nat.le_refl _) vx (by rw[h.dZ];exact mD)
     exact⟨_,_,_,this,iG.quiet hI hB (aN.U) λb=>by simp[cj,eP]⟩
    ·rename_i yl
     split at ha
     ·rename_i hr
      cases ha
      cases hs
      exact fresh none (run_firstCells_none _ _ _ _ _) (by simpa using yl) hr
     ·cases ha
   ·split at ha
    ·rename_i yl
     cases ha
     have h0:new=[]:=by simpa using yl
     subst h0
     have hn:news=[]:=by
      have:=dj.1;simp at this;exact List.eq_nil_of_length_eq_zero this.symm
     subst hn
     cases hs with
     |emp a=>
     have:=run_append_nothing w t tx ty e i h.ht h.hi (some a) 0 0 (Nat.le_refl _) vx (by rw[h.dZ];exact mD)
     exact⟨_,_,_,this,iG.quiet hI hB (aN.emp a) λb=>by simp[cj,eP]⟩
    ·rename_i yl
     split at ha
     ·rename_i hr
      cases ha
      cases hs with
      |emp a=>
      exact fresh (some a) (by simp[Builtin.firstCells,loadCells,loadCellsFrom]) (by simpa using yl) hr
     ·cases ha
   ·rename_i iP old
    split at ha
    ·rename_i hc
     simp only[Bool.and_eq_true,decide_eq_true_eq]at hc
     obtain⟨rfl,hr⟩:=hc
     cases ha
     have hv:=hs.view
     cases hs with
     |own _ _ a cap ot eS Z2 WM abq abr yh Od gx fj=>
     simp only[AV.view]at hv
     obtain⟨_,_,_,_,_,_,olds,hro,hxo⟩:=Gm hv
     obtain⟨b,off,sp⟩:=a
     simp only at ot gx fj hxo
     subst ot
     have Ny:olds.length=old.length*iP:=by rw[<-hro.1];exact eI old (b9.1 Z2)
     have Nz:news.length=new.length*iP:=mD.newsLen
     have iU:=tL Z2 bn
     have qg:(old++new).flatten=old.flatten++new.flatten:=List.flatten_append
     by_cases mH:old.length+new.length<=cap
     ·obtain⟨c,e0,hg,VI⟩:=fj
      have hle:off+old.length*iP+news.length<=c.size:=by
       rw[Nz]
       have:(old.length+new.length)*iP<=cap*iP:=Nat.mul_le_mul_right _ mH
       rw[Nat.add_mul]at this
       omega
      have e1:=pg (ty:=ty) h b off old.length cap c e0 hg vx new.length news mD mH VI
      have hW:Wr w G (w.setRow b (af c.toList (off+old.length*iP) news).toArray) ⟨G.ls,λb'=>if b'=b then some (off+(old++new).length*iP) else G.kL b'⟩ b:=
       A3 hg hle gx (Nat.le_refl _) (by rw[List.length_append,Nat.add_mul];omega) (AZ G)
      have kP:cO b=1/\fC b β bx=0/\bY b G.ls st=0:=by
       have h1:=hX b
       have h2:=mI b
       simp only[eP,if_true]at h2
       omega
      have Gn:∀b',b'≠b->dH w G _ _ b':=λb' hb=>hW.iD hb
      refine⟨_,_,⟨G.ls,λb'=>if b'=b then some (off+(old++new).length*iP) else G.kL b'⟩,e1,?_⟩
      have abt:b8 (w.setRow b (af c.toList (off+old.length*iP) news).toArray) ⟨G.ls,λb'=>if b'=b then some (off+(old++new).length*iP) else G.kL b'⟩ (old++new).flatten (olds++news):=by
       rw[qg]
       refine(hro.append dj).mono hW.iB λb' lO=>?_
       rw[<-qg,cW b' _ _ ((cm _).2 λx hx=>?_)]at lO
       ·omega
       ·obtain⟨r,hr,hx⟩:=List.mem_flatten.1 hx
        exact(cm r).1 (ni WM iY r hr) x hx
      have eH:=setRow_heap w b c (af c.toList (off+old.length*iP) news).toArray e0 (0,0) hg
      have WL:=Ep (cap:=cap) iU (ni abr gY) (ni WM iY) (ni abq nA) abt eH (by rw[List.size_toArray,di];simpa using VI) (by simpa using mH) (by simp) (λk x hk=>by
       rw[List.getElem?_toArray,iC _ _ _ _ (by simpa using hle)]
       by_cases qL:k<olds.length
       ·rw[List.getElem?_append_left qL]at hk
        rw[if_neg (by omega)]
        have:=hxo k x hk
        simpa [World.cell?,hg] using this
       ·rw[List.getElem?_append_right (by omega)]at hk
        have aV:=(List.getElem?_eq_some_iff.1 hk).1
        rw[if_pos (by omega)]
        rw[show off+k-(off+old.length*iP)=k-olds.length by omega]
        exact hk)
      refine⟨hW.iB,tK hI hW.iB rfl (λb' lO=>Gn b' ?_) (hW.k9 hI),lA hB hW.iB λb' lO=>Gn b' ?_,by rw[<-List.length_append];exact WL,λb'=>?_,λb' lO _=>Gn b' ?_,by simp,rfl,rfl⟩
      ·intro e;subst e;omega
      ·intro e;subst e;omega
      ·have h2:=mI b'
       simp only[eP]at h2
       simp only[cj,eP]
       omega
      ·intro e;subst e;omega
     ·have vu:(old.length+new.length)*bytes<=140737488355328:=hr
      have hf:(Builtin.firstCells iP old.length (.slice (some ⟨b,off,none⟩) old.length cap)).run P w.drew=.ok olds.toArray w.drew:=
       run_firstCells_some w.drew iP old.length ⟨b,off,none⟩ old.length cap olds Ny (λj v hj=>by rw[j9,Dn];exact hxo j v hj)
      obtain⟨L3,c,e1,e2,e3,e4⟩:=pq (ty:=ty) h (some ⟨b,off,none⟩) old.length cap olds hf Ny vx new.length news mD (by omega) vu
      rw[<-List.length_append]at e1 e2
      obtain⟨G',hA⟩:=Er (w':=w.drew.alloc (.cells c e)) (cO:=cO) hI hB rfl rfl rfl iU (ni abr gY) (ni WM iY) (ni abq nA) (by rw[qg];exact hro.append dj) e3 e2 e4
      exact⟨_,_,G',e1,hA⟩
    ·cases ha
   ·cases ha
  ·cases ha
end Ax
