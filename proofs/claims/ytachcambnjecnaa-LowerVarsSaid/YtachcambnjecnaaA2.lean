/- The library of this proof, part 2: an abstract interpreter of the loaded code, and its soundness. -/
import Derived.Test.YtachcambnjecnaaA1
import Derived.Laws.Tables
import Derived.Laws.Cells
import Derived.Laws.CopyRow
import Derived.Great.BuildSlice
import Derived.Laws.MakeOwn
import Derived.Carry
import Derived.Deep.Upon

namespace Ax
open Go
variable {P:Program}{w:World}{G:aK}{β:List kO}{ρ:Operand->Value}{o:Oper}
theorem Iz {c:Call}{x:Operand}(h:c.args.toList=[x]):c.args = #[x]:=by
 have:=congrArg List.toArray h;simpa using this
theorem mh {c:Call}{x y:Operand}(h:c.args.toList=[x,y]):c.args = #[x,y]:=by
 have:=congrArg List.toArray h;simpa using this
theorem aaw {c:Call}(ho:o.op=.call c)(hc:c.callee=.builtin .max){x y:Operand}(hx:c.args.toList=[x,y]){k:IntKind}{a b:Int}
  (ha:aL w G (.int k a) (ρ x)) (hb:aL w G (.int k b) (ρ y)):(execOp ρ o).run P w=.ok (.value (.int k (if b > a then b else a))) w:=by
 simp only[execOp,ho,resolve,hc,Sem.run_bind,Sem.run_pure,Result.andThen_ok,invoke,builtin,mh hx]
 simp[Builtin.max_,Builtin.max2,ha.eS,hb.eS]
theorem aax {c:Call}(ho:o.op=.call c)(hc:c.callee=.builtin .min){x y:Operand}(hx:c.args.toList=[x,y]){k:IntKind}{a b:Int}
  (ha:aL w G (.int k a) (ρ x)) (hb:aL w G (.int k b) (ρ y)):(execOp ρ o).run P w=.ok (.value (.int k (if b<a then b else a))) w:=by
 simp only[execOp,ho,resolve,hc,Sem.run_bind,Sem.run_pure,Result.andThen_ok,invoke,builtin,mh hx]
 simp[Builtin.min_,Builtin.min2,ha.eS,hb.eS]
theorem vh {x:Operand}(ho:o.op=.nilCheck x){a:Addr}(hx:ρ x=.pointer (some a)):(execOp ρ o).run P w=.ok (.value (ρ x)) w:=by
 simp only[execOp,ho,hx];rfl
theorem Lt {x:Operand}{i:Nat}(ho:o.op=.extract x i){vs:List AV}{v:AV}(hv:vs[i]?=some v)(ha:aL w G (.fm vs) (ρ x)) :
  ∃u,(execOp ρ o).run P w=.ok (.value u) w/\aL w G v u/\∀b,eH b v u<=eH b (.fm vs) (ρ x):=by
 generalize hx:ρ x=xv at ha
 cases ha with
 |fm _ us hl hh=>
  have hi:i<vs.length:=(List.getElem?_eq_some_iff.1 hv).1
  have n8:i<us.size:=by omega
  refine⟨us[i],?_,hh i v us[i] hv (by simp[n8]),λb=>?_⟩
  ·simp only[execOp,ho,hx]
   simp[Instr.extract,n8]
  ·simp only[eH]
   exact sw b vs us.toList i v us[i] hv (by simp[n8])
theorem oD {cs r:List AV}{k n:Nat}(h:cut cs k n=some r):r=(cs.drop k).take n/\k+n<=cs.length/\r.length=n:=by
 unfold cut at h
 split at h
 ·cases h;exact⟨rfl,by assumption,by simp;omega⟩
 ·cases h
theorem vk {t:TypeId}{b:Bool}(h:lA P t=some b)(w:World):(isAgg t).run P w=.ok b w:=by
 unfold lA at h
 split at h
 ·rename_i hu;cases h;simp[isAgg,run_underlying hu]
 ·rename_i hu;cases h;simp[isAgg,run_underlying hu]
 ·rename_i d h1 h2 hu
  cases h
  cases d<;>simp_all [isAgg,run_underlying hu]
 ·cases h
theorem zH {agg:Bool}{r:List AV}{v:AV}(h:bU agg r=some v){xs:List Value}(hx:bV w G r xs) :
  ∃u,(if agg then .agg xs.toArray else xs.headD undef)=u/\aL w G v u/\(∀b,eH b v u=bM b r xs)/\(agg=false->∃c x,r=[c]/\xs=[x]/\v=c/\u=x):=by
 refine⟨_,rfl,?_⟩
 unfold bU at h
 cases agg with
 |true=>
  simp only[if_true,Option.some.injEq]at h
  subst h
  refine⟨.agg _ _ (by simpa using hx.1) λi c v hc hv=>hx.2 i c v hc (by simpa using hv),λb=>by simp[eH],by simp⟩
 |false=>
  simp only[Bool.false_eq_true,if_false]at h
  split at h
  ·rename_i c
   cases h
   match xs,hx with
   |[x],hx=>exact⟨hx.2 0 v x rfl rfl,λb=>by simp[bM],λ_=>⟨v,x,rfl,rfl,rfl,rfl⟩⟩
   |[],hx=>simp[bV]at hx
   |_::_::_,hx=>simp[bV]at hx
  ·cases h
theorem R6 (vs:Array Value)(off n:Nat):vs.extract off (off+n)=((vs.toList.drop off).take n).toArray:=by
 apply Array.ext'
 simp[Array.toList_extract,List.extract]
theorem R7 {t:TypeId}{x:Operand}{f:Nat}(ho:o.op=.field t x f){fs:Array Field}{fd:Field}(hu:P.underlying t=some (.struct fs))(hf:fs[f]?=some fd){off n:Nat}{agg:Bool}
  (aay:fd.offset=off) (hn:ck P fd.type n=true) (p7:lA P fd.type=some agg) {cs r:List AV} {v:AV} (hc:cut cs off n=some r) (hv:bU agg r=some v)
  (ha:aL w G (.agg cs) (ρ x)):∃u,(execOp ρ o).run P w=.ok (.value u) w/\aL w G v u/\∀b,eH b v u<=eH b (.agg cs) (ρ x):=by
 generalize hx:ρ x=xv at ha
 cases ha with
 |agg _ vs hl hh=>
  obtain⟨rfl,hle,hlen⟩:=oD hc
  have hC:bV w G cs vs.toList:=⟨by simpa using hl,λi c v h1 h2=>hh i c v h1 (by simpa using h2)⟩
  have hR:=(hC.drop off).take n
  obtain⟨u,hu',h1,h2,h3⟩:=zH hv hR
  refine⟨u,?_,h1,λb=>?_⟩
  ·simp only[execOp,ho,hx]
   simp only[Instr.field,Sem.run_bind,run_underlying hu,Result.andThen_ok,hf,asAgg,Sem.run_pure,part,vk p7,aay]
   cases agg with
   |true=>
    simp only[if_true]at hu'
    subst hu'
    simp[dn hn,R6]
   |false=>
    obtain⟨c,y,e1,e2,e3,e4⟩:=h3 rfl
    have hy:vs[off]?=some y:=by
     have:=congrArg (·[0]?) e2
     simp only[List.getElem?_take,List.getElem?_drop]at this
     split at this
     ·simpa using this
     ·simp at this
    simp[hy,e4]
  ·rw[h2]
   simp only[eH]
   have a1:=Ls b n (cs.drop off) (vs.toList.drop off) (by simp;omega)
   have a2:=tN b off cs vs.toList (by simpa using hl)
   omega
theorem D1 {place:Nat->Option (Nat×Nat)}:∀(ps:List (Nat×Value))(qs:List (Nat×Nat))(vs:List AV)(zero cs:List AV)(zc:Array Value),gy zero qs vs=some cs->bV w G zero zc.toList->
  bV w G vs (ps.map (·.2))->(∀(i:Nat) p q,ps[i]?=some p->qs[i]?=some q->place p.1=some q)->
  ∃cells,Instr.fill place zc ps=some cells/\bV w G cs cells.toList/\∀b,bM b cs cells.toList<=bM b zero zc.toList+bM b vs (ps.map (·.2))
 |[],qs,vs,zero,cs,zc,h,hz,hv,hp=>by
  cases vs with
  |nil=>
   cases qs with
   |nil=>simp[gy]at h;subst h;exact⟨zc,rfl,hz,λb=>by omega⟩
   |cons q qs=>simp[gy]at h
  |cons v vs=>simp[bV]at hv
 |p::ps,qs,vs,zero,cs,zc,h,hz,hv,hp=>by
  cases vs with
  |nil=>simp[bV]at hv
  |cons v vs=>
   cases qs with
   |nil=>simp[gy]at h
   |cons q qs=>
    obtain⟨off,n⟩:=q
    simp only[gy]at h
    split at h
    ·rename_i hc
     simp only[Bool.and_eq_true,decide_eq_true_eq]at hc
     obtain⟨Rw,aay⟩:=hc
     have Nt:=hp 0 p (off,n) rfl rfl
     have V0:aL w G v p.2:=hv.2 0 v p.2 rfl rfl
     obtain⟨Nv,J1⟩:=V0.cells
     have dL:p.2.cells.size=n:=by have:=Nv.1;simp at this;omega
     have Nw:zc.size=zero.length:=by have:=hz.1;simp at this;omega
     have Lu:=Iy off p.2.cells.toList zc (by simp;omega)
     have zm:bV w G (af zero off v.cells) (af zc.toList off p.2.cells.toList):=hz.af Nv (by omega)
     have Cs:bV w G vs (ps.map (·.2)):=⟨by have:=hv.1;simpa using this,λi c x h1 h2=>hv.2 (i+1) c x (by simpa using h1) (by simpa using h2)⟩
     have step:Instr.fill place zc (p::ps)=Instr.fill place (p.2.cells.zipIdx.foldl (λcs (c,j)=>cs.setIfInBounds (off+j) c) zc) ps:=by
      obtain⟨pi,pv⟩:=p
      simp only[Instr.fill]
      rw[Nt]
      simp only
      rw[if_neg (by simp at dL ⊢;omega)]
     simp only[Array.toArray_toList]at Lu
     obtain⟨cells,e1,e2,e3⟩:=D1 ps qs vs (af zero off v.cells) cs _ h (by rw[Lu];exact zm) Cs (λi p q h1 h2=>hp (i+1) p q (by simpa using h1) (by simpa using h2))
     refine⟨cells,step.trans e1,e2,λb=>?_⟩
     have h3:=e3 b
     rw[Lu]at h3
     have h4:=oC b zero v.cells zc.toList p.2.cells.toList off hz.1 Nv.1 (by omega)
     have h5:=J1 b
     simp only[List.map_cons,bM]
     omega
    ·cases h
theorem yH {fs:Array Field}:∀{ps:List (Nat×Operand)}{qs:List (Nat×Nat)},oB P fs ps qs=true->ps.length=qs.length/\
  ∀(i:Nat) p q,ps[i]?=some p->qs[i]?=some q->∃f,fs[p.1]?=some f/\f.offset=q.1/\ck P f.type q.2=true
 |[],[],_=>⟨rfl,λi p q h _=>by simp at h⟩
 |(j,x)::ps,(off,n)::qs,h=>by
  simp only[oB,Bool.and_eq_true]at h
  obtain⟨h1,h2⟩:=h
  obtain⟨e1,e2⟩:=yH h2
  refine⟨by simp[e1],λi p q hp hq=>?_⟩
  cases i with
  |zero=>
   simp at hp hq
   subst hp;subst hq
   split at h1
   ·rename_i f hf
    simp only[Bool.and_eq_true,beq_iff_eq]at h1
    exact⟨f,hf,h1.1,h1.2⟩
   ·cases h1
  |succ i=>exact e2 i p q (by simpa using hp) (by simpa using hq)
 |[],_::_,h=>by simp[oB]at h
 |_::_,[],h=>by simp[oB]at h
theorem j3 {t:TypeId}{zero:List AV}(h:me P t zero=true)(w:World)(G:aK) :
  ∃i z,P.info? t=some i/\i.zero=some z/\bV w G zero z.cells.toList/\(∀c∈zero,c.bR=true/\c.an=true)/\AV.aH zero=true:=by
 unfold me at h
 split at h
 ·rename_i i hi
  split at h
  ·rename_i z hz
   simp only[Bool.and_eq_true]at h
   obtain⟨e1,e2,e3⟩:=vQ w G h.1
   exact⟨i,z,hi,hz,⟨e1,e2⟩,e3,h.2⟩
  ·cases h
 ·cases h
theorem R8 {t:TypeId}{parts:Array (Nat×Operand)}(ho:o.op=.build t parts){fs:Array Field}(hu:P.underlying t=some (.struct fs)){is:List TypeInfo}(Ct:fs.toList.mapM (λf=>P.info? f.type)=some is)
  {zero:List AV} {qs:List (Nat×Nat)} (hz:me P t zero=true) (hp:oB P fs parts.toList qs=true) {vs cs:List AV} (hc:gy zero qs vs=some cs)
  (hv:bV w G vs (parts.toList.map λp=>ρ p.2)):∃u,(execOp ρ o).run P w=.ok (.value u) w/\aL w G (.agg cs) u/\∀b,eH b (.agg cs) u<=bM b vs (parts.toList.map λp=>ρ p.2):=by
 obtain⟨i,z,hi,Nx,lX,FJ,_⟩:=j3 hz w G
 obtain⟨Nt,hpp⟩:=yH hp
 have R9:fs.toList.mapM (λf=>(P.info? f.type).map λi=>(f.offset,i.size))=some (List.zipWith (λf i=>(f.offset,i.size)) fs.toList is)/\fs.toList.length=is.length/\∀(k:Nat) f j,fs.toList[k]?=some f->is[k]?=some j->P.info? f.type=some j:=by
  generalize fs.toList=l at Ct
  induction l generalizing is with
  |nil=>simp at Ct;subst Ct;exact⟨rfl,rfl,λk f j h _=>by simp at h⟩
  |cons f l ih=>
   rw[List.mapM_cons]at Ct
   simp only[bind,Option.bind_eq_some_iff,pure,Option.some.injEq]at Ct
   obtain⟨j,hj,is',ae2,rfl⟩:=Ct
   obtain⟨a1,a2,a3⟩:=ih ae2
   refine⟨?_,by simp[a2],λk g j' h1 h2=>?_⟩
   ·rw[List.mapM_cons,a1];simp[hj]
   ·cases k with
    |zero=>simp at h1 h2;subst h1;subst h2;exact hj
    |succ k=>simp at h1 h2;exact a3 k g j' h1 h2
 obtain⟨hm,hlen,ae3⟩:=R9
 have D2:(parts.map λ(x:Nat×Operand)=>(x.1,ρ x.2)).toList.map (·.2)=parts.toList.map λp=>ρ p.2:=by simp[Function.comp_def]
 obtain⟨cells,e1,e2,e3⟩:=D1 (place:=((List.zipWith (λ(f:Field) (i:TypeInfo)=>(f.offset,i.size)) fs.toList is).toArray[·]?)) (parts.map λ(x:Nat×Operand)=>(x.1,ρ x.2)).toList qs vs zero cs z.cells hc lX
  (by rw[D2];exact hv) (by
   intro k p q h1 h2
   simp only[Array.toList_map,List.getElem?_map,Option.map_eq_some_iff]at h1
   obtain⟨p',h1,rfl⟩:=h1
   obtain⟨f,g1,g2,g3⟩:=hpp k p' q h1 h2
   obtain⟨j,g4,g5,_⟩:=jM g3
   have hf:fs.toList[p'.1]?=some f:=by simpa using g1
   have hj:is[p'.1]?=some j:=by
    have aZ:p'.1<is.length:=by rw[<-hlen];exact(List.getElem?_eq_some_iff.1 hf).1
    have:=ae3 p'.1 f is[p'.1] hf (List.getElem?_eq_getElem aZ)
    rw[g4]at this
    cases this
    exact List.getElem?_eq_getElem aZ
   simp[List.getElem?_zipWith,hf,hj,g2,g5])
 have hb:P.built t (parts.map λ(x:Nat×Operand)=>(x.1,ρ x.2)).toList=some cells:=by
  unfold Program.built
  rw[hi,hu]
  simp only[Nx,hm]
  exact e1
 refine⟨.agg cells,?_,.agg _ _ (by simpa using e2.1) λi c v h1 h2=>e2.2 i c v h1 (by simpa using h2),λb=>?_⟩
 ·simp only[execOp,ho,Sem.run_bind]
  have:=run_build w t (parts.map λ(x:Nat×Operand)=>(x.1,ρ x.2)) cells hb
  simp only[this,Result.andThen_ok,Sem.run_pure]
 ·have h1:=e3 b
  have h2:bM b zero z.cells.toList=0:=cU b _ _ ((cn zero).2 λc hc=>(FJ c hc).1)
  rw[D2]at h1
  simp only[eH]
  omega
end Ax
namespace Ax
open Go
variable {P:Program}{w:World}{G:aK}{β:List kO}{ρ:Operand->Value}{o:Oper}
theorem jO (b off n:Nat):(⟨b,off,none⟩:Addr).add n=⟨b,off+n,none⟩:=by
 unfold Addr.add;split<;>simp_all
theorem FK {t:TypeId}{f:Nat}{fs:Array Field}{fd:Field}{i:TypeInfo}(hu:P.underlying t=some (.struct fs))(hf:fs[f]?=some fd)(hi:P.info? fd.type=some i)(hs:i.size≠0)(a:Addr)(w:World) :
  (Instr.fieldAt t (.pointer (some a)) f).run P w=.ok (.pointer (some (a.add fd.offset))) w:=by
 have hc:P.cellsOf fd.type≠0:=by simp[Program.cellsOf,hi,hs]
 simp[Instr.fieldAt,run_underlying hu,hf,Instr.sureAddr,fieldPlace,run_sizeOf w hi,hc]
theorem sy {t:TypeId}{x:Operand}{f:Nat}(ho:o.op=.fieldAddr t x f){fs:Array Field}{fd:Field}{i:TypeInfo}(hu:P.underlying t=some (.struct fs))(hf:fs[f]?=some fd)(hi:P.info? fd.type=some i)(hs:i.size≠0)
  {a:Addr} (hx:ρ x=.pointer (some a)):(execOp ρ o).run P w=.ok (.value (.pointer (some (a.add fd.offset)))) w:=by
 simp only[execOp,ho,hx,Sem.run_bind,FK hu hf hi hs,Result.andThen_ok,Sem.run_pure]
theorem uJ {p:AV}{v:Value}{off:Nat}{q:AV}(h:aL w G p v)
  (hq:(∃id bP i k,p=.ptr id bP i k/\q=.ptr id bP i (k+off))\/(∃sz rows i k,p=.nJ sz rows i k/\q=.nJ sz rows i (k+off))) :
  ∃a,v=.pointer (some a)/\aL w G q (.pointer (some (a.add off))):=by
 rcases hq with⟨id,bP,i,k,rfl,rfl⟩|⟨sz,rows,i,k,rfl,rfl⟩
 ·cases h with
  |ptr _ _ _ _ _ loc hp hl hv he=>
   obtain⟨a,rfl⟩:=hp
   refine⟨a,rfl,.ptr _ _ _ _ _ loc ⟨_,rfl⟩ hl hv λe=>?_⟩
   obtain⟨a',h1,h2⟩:=he e
   cases h2
   exact⟨a',h1,by rw[jO];congr 3;omega⟩
 ·cases h with
  |nJ _ _ _ _ a cap hs=>
   refine⟨_,rfl,?_⟩
   rw[jO]
   have:=aL.nJ (w:=w) (G:=G) sz rows i (k+off) a cap hs
   rw[show a.off+(i*sz+k)+off=a.off+(i*sz+(k+off)) by omega]
   exact this
theorem yI {t e:TypeId}{sz:Nat}(hu:P.underlying t=some (.slice e))(dL:ck P e sz=true){a:Addr}{len cap:Nat}{i:Int}(h0:0<=i)(h1:i<len)(w:World) :
  (Instr.indexAt t (.slice (some a) len cap) (.int .i64 i)).run P w=.ok (.pointer (some (a.add (i.toNat*sz)))) w:=by
 simp[Instr.indexAt,run_underlying hu,asIntOf,dn dL,h0,h1]
theorem FL {t e:TypeId}{x y:Operand}{sz:Nat}(ho:o.op=.indexAddr t x y)(hu:P.underlying t=some (.slice e))(dL:ck P e sz=true){st:aj}(hI:Inv w G st){a:AV}{i:Int}{bx eI:aS}{bK:aj}{r:dK}
  (h:aI 0 0 (.indexAddr sz) [.val a,.val (.int .i64 i)] st bx=some (r,bK,eI)) (ha:aL w G a (ρ x)) (hy:ρ y=.int .i64 i) :
  bK=st/\eI=bx/\∃p u,r=.val p/\(execOp ρ o).run P w=.ok (.value u) w/\aL w G p u/\p.bR=true:=by
 have pure:∀(s:Nat) (rows:List (List AV)) (v:Value),aL w G (.cN s rows) v->ρ x=v->s=sz->0<=i->i<rows.length->
   ∃u,(execOp ρ o).run P w=.ok (.value u) w/\aL w G (.nJ sz rows i.toNat 0) u:=by
  intro s rows v hv FI hs h0 h1
  subst hs
  have Cr:=hv
  cases hv with
  |cN _ _ a cap nS eJ=>
   refine⟨_,?_,.nJ _ rows i.toNat 0 a cap Cr⟩
   simp only[execOp,ho,FI,hy,Sem.run_bind,yI hu dL h0 (by exact_mod_cast h1),Result.andThen_ok,Sem.run_pure]
   obtain⟨b,off,spot⟩:=a
   simp only at nS
   subst nS
   rw[jO]
   simp
 simp only[aI]at h
 split at h<;>try (cases h;done)
 ·rename_i s rows
  split at h
  ·rename_i hc
   cases h
   simp only[Bool.and_eq_true,decide_eq_true_eq]at hc
   obtain⟨u,h1,h2⟩:=pure s rows _ ha rfl hc.1.1 hc.1.2 hc.2
   exact⟨rfl,rfl,_,u,rfl,h1,h2,rfl⟩
  ·cases h
 ·rename_i s rows
  split at h
  ·rename_i hc
   cases h
   simp only[Bool.and_eq_true,decide_eq_true_eq]at hc
   obtain⟨u,h1,h2⟩:=pure s rows _ ha.view rfl hc.1.1 hc.1.2 hc.2
   exact⟨rfl,rfl,_,u,rfl,h1,h2,rfl⟩
  ·cases h
 ·rename_i id bP
  split at h
  ·rename_i v s rows eG
   split at h
   ·rename_i hc
    cases h
    simp only[Bool.and_eq_true,decide_eq_true_eq]at hc
    obtain⟨⟨⟨D3,hs⟩,h0⟩,h1⟩:=hc
    subst D3;subst hs
    obtain⟨loc,hl,R4⟩:=hI.loc eG
    obtain⟨yJ,xz,gn⟩:=R4
    generalize FI:ρ x=xv at ha
    cases ha with
    |mu _ _ _ loc' hp nA hv he=>
     rw[hl]at nA;cases nA
     have hx:=he xz.symm
     rcases gn.nB with⟨_,p8,_⟩|⟨b,off,c,e',rQ,eJ,eu,hle,hlen,gq,cW⟩
     ·subst p8;simp at h1;omega
     ·rw[rQ,gn.len]at hx
      refine⟨rfl,rfl,_,_,rfl,?_,.ptr id v i.toNat 0 _ loc ⟨_,rfl⟩ hl (by omega) λ_=>⟨_,rQ,rfl⟩,rfl⟩
      simp only[execOp,ho,FI,hx,hy,Sem.run_bind,yI hu dL h0 h1,Result.andThen_ok,Sem.run_pure]
      rw[jO,gn.size]
      simp
   ·cases h
  ·cases h
theorem Sa {t:TypeId}{x y:Operand}(ho:o.op=.index t x y)(hu:P.underlying t=some .string){s:List UInt8}{i:Int}{b:UInt8}(h0:0<=i)(hb:s[i.toNat]?=some b)(ha:aL w G (.str s) (ρ x))(hy:ρ y=.int .i64 i) :
  (execOp ρ o).run P w=.ok (.value (.int .u8 b.toNat)) w:=by
 obtain⟨s',hx,rfl⟩:=ha.kM
 have kW:s'[i.toNat]?=some b:=by
  have aZ:i.toNat<s'.size:=by have:=(List.getElem?_eq_some_iff.1 hb).1;simpa using this
  have hd:s'.data[i.toNat]?=some b:=by simpa using hb
  have e:s'[i.toNat]?=s'.data[i.toNat]?:=rfl
  rw[e];exact hd
 simp only[execOp,ho,hx,hy,Sem.run_bind]
 simp[Instr.index,run_underlying hu,asIntOf,h0,kW]
theorem FM {st:aj}(hI:Inv w G st){p:AV}{v:Value}{n:Nat}{cs:List AV}(hr:fF st p n=some cs)(hp:aL w G p v) :
  ∃b off xs,v=.pointer (some ⟨b,off,none⟩)/\xs.length=n/\bV w G cs xs/\∀(j:Nat) x,xs[j]?=some x->w.cell? ⟨b,off+j,none⟩=some x:=by
 have build:∀(r:List AV) (k b off:Nat),cut r k n=some cs->(∀(j:Nat) c,r[j]?=some c->∃x,w.cell? ⟨b,off+j,none⟩=some x/\aL w G c x)->
   ∃xs:List Value,xs.length=n/\bV w G cs xs/\∀(j:Nat) x,xs[j]?=some x->w.cell? ⟨b,off+k+j,none⟩=some x:=by
  intro r k b off hc l8
  obtain⟨rfl,hle,hlen⟩:=oD hc
  refine⟨(List.range n).map λj=>(w.cell? ⟨b,off+k+j,none⟩).getD undef,by simp,⟨by simp;omega,λj c x h1 h2=>?_⟩,λj x h=>?_⟩
  ·rw[List.getElem?_take]at h1
   split at h1
   ·rw[List.getElem?_drop]at h1
    obtain⟨y,e1,e2⟩:=l8 _ c h1
    simp only[List.getElem?_map,Option.map_eq_some_iff]at h2
    obtain⟨j',h3,rfl⟩:=h2
    have:j'=j:=by
     rw[List.getElem?_range (by assumption)]at h3;simpa using h3.symm
    subst this
    rw[show off+k+j'=off+(k+j') by omega,e1]
    exact e2
   ·cases h1
  ·simp only[List.getElem?_map,Option.map_eq_some_iff]at h
   obtain⟨j',h3,rfl⟩:=h
   have hj:j<n:=by
    have:=(List.getElem?_eq_some_iff.1 h3).1;simpa using this
   have:j'=j:=by
    rw[List.getElem?_range hj]at h3;simpa using h3.symm
   subst this
   have aZ:k+j'<r.length:=by omega
   obtain⟨y,e1,e2⟩:=l8 (k+j') r[k+j'] (List.getElem?_eq_getElem aZ)
   rw[show off+k+j'=off+(k+j') by omega,e1]
   rfl
 unfold fF at hr
 split at hr
 ·rename_i id bP i k
  split at hr
  ·rename_i ve sz rows eG
   split at hr
   ·rename_i D3
    subst D3
    split at hr
    ·rename_i r cP
     obtain⟨loc,hl,yJ,xz,gn⟩:=hI.loc eG
     cases hp with
     |ptr _ _ _ _ _ loc' hpp nA hv he=>
      rw[hl]at nA;cases nA
      obtain⟨a,rQ,rfl⟩:=he xz.symm
      rcases gn.nB with⟨_,p8,_⟩|⟨b,off,c,e',IA,eJ,eu,hle,hlen,gq,cW⟩
      ·subst p8;simp at cP
      ·rw[IA]at rQ;cases rQ
       obtain⟨xs,h1,h2,h3⟩:=build r k b (off+i*sz) hr (λj c hc=>by
        obtain⟨x,e1,e2⟩:=gn.cell cW i r j c cP hc
        exact⟨x,by rw[show off+i*sz+j=off+(i*sz+j) by omega];exact e1,e2⟩)
       refine⟨b,off+(i*sz+k),xs,by rw[gn.size],h1,h2,λj x hx=>?_⟩
       rw[show off+(i*sz+k)+j=off+i*sz+k+j by omega]
       exact h3 j x hx
    ·cases hr
   ·cases hr
  ·cases hr
 ·rename_i sz rows i k
  split at hr
  ·rename_i r cP
   cases hp with
   |nJ _ _ _ _ a cap hs=>
    cases hs with
    |cN _ _ _ _ nS eJ bY hY mU tH hc yK=>
     obtain⟨xs,h1,h2,h3⟩:=build r k a.block (a.off+i*sz) hr (λj c MZ=>by
      obtain⟨_,x,e1⟩:=hc i r j c cP MZ
      exact⟨x,by rw[show a.off+i*sz+j=a.off+(i*sz+j) by omega];exact e1,yK i r j c x cP MZ e1⟩)
     refine⟨a.block,a.off+(i*sz+k),xs,rfl,h1,h2,λj x hx=>?_⟩
     rw[show a.off+(i*sz+k)+j=a.off+i*sz+k+j by omega]
     exact h3 j x hx
  ·cases hr
 ·cases hr
theorem Av {t:TypeId}{n:Nat}{agg:Bool}(hn:ck P t n=true)(p7:lA P t=some agg){b off:Nat}{xs:List Value}(hlen:xs.length=n)(kq:agg=false->n=1)
  (hc:∀(j:Nat) x,xs[j]?=some x->w.cell? ⟨b,off+j,none⟩=some x) :
  (Instr.loadAt t (.pointer (some ⟨b,off,none⟩))).run P w=.ok (if agg then .agg xs.toArray else xs.headD undef) w:=by
 cases agg with
 |true=>
  have:=run_loadCells_list (P:=P) w ⟨b,off,none⟩ xs (λj v h=>by rw[jO];exact hc j v h)
  rw[hlen]at this
  simp[Instr.loadAt,Instr.sureAddr,loadVar,vk p7,dn hn,this]
 |false=>
  match xs,hlen,kq rfl with
  |[x],_,_=>
   have:=hc 0 x rfl
   simp only[Nat.add_zero]at this
   simp[Instr.loadAt,Instr.sureAddr,loadVar,vk p7,this]
  |[],h,h1=>simp at h;omega
  |_::_::_,h,h1=>simp at h;omega
theorem bV.view {as:List AV}{xs:List Value}(h:bV w G as xs):bV w G (AV.cy as) xs:=by
 refine⟨by rw[lz];exact h.1,λi c v hc hv=>?_⟩
 rw[tJ]at hc
 simp only[Option.map_eq_some_iff]at hc
 obtain⟨c',h1,rfl⟩:=hc
 exact(h.2 i c' v h1 hv).view
theorem D4 {t:TypeId}{x:Operand}{n:Nat}{agg:Bool}(ho:o.op=.load t x)(hn:ck P t n=true)(p7:lA P t=some agg)(kq:agg=false->n=1){b off:Nat}{xs:List Value}{cs:List AV}{v:AV}
  (hx:ρ x=.pointer (some ⟨b,off,none⟩)) (hlen:xs.length=n) (hC:bV w G cs xs) (hc:∀(j:Nat) y,xs[j]?=some y->w.cell? ⟨b,off+j,none⟩=some y) (hv:bU agg cs=some v) :
  ∃u,(execOp ρ o).run P w=.ok (.value u) w/\aL w G v u/\∀d,eH d v u=bM d cs xs:=by
 obtain⟨u,hu,h1,h2,_⟩:=zH hv hC
 refine⟨u,?_,h1,h2⟩
 simp only[execOp,ho,hx,Sem.run_bind,Av hn p7 hlen kq hc,Result.andThen_ok,Sem.run_pure,hu]
theorem IB {f:FuncId}{first jI:Array Operand}(hf:f<100000)(ho:o.op=.makeFunc (.func f) first jI){vs:List AV}(hv:bV w G vs ((first.toList++jI.toList).map ρ)) :
  (execOp ρ o).run P w=.ok (.value (.func (.func f) (first.map ρ) (jI.map ρ))) w/\
   aL w G (.fn f (AV.cy (vs.take first.size)) (AV.cy (vs.drop first.size))) (.func (.func f) (first.map ρ) (jI.map ρ)):=by
 refine⟨by simp only[execOp,ho,Sem.run_bind];rfl,?_⟩
 have h1:=(hv.take first.size).view
 have h2:=(hv.drop first.size).view
 rw[List.map_append]at h1 h2
 rw[List.take_left' (by simp)]at h1
 rw[List.drop_left' (by simp)]at h2
 refine .fn f _ _ _ _ (by simpa using h1.1) (by simpa using h2.1) ⟨fB _,fB _,hf⟩ (λi c v e1 e2=>h1.2 i c v e1 ?_) (λi c v e1 e2=>h2.2 i c v e1 ?_)
 ·simpa using e2
 ·simpa using e2
end Ax
namespace Ax
open Go
variable {P:Program}{w:World}{G:aK}{β:List kO}{ρ:Operand->Value}{o:Oper}
def vm (ρ:Operand->Value)(x:Option Operand)(VY a:Int):Prop:=(x=none/\a=VY)\/∃y,x=some y/\ρ y=.int .i64 a
theorem lB {i:Int}{y:Nat}{c:BoundsCode}(h0:0<=i)(h1:i<=y)(w:World):(Instr.sliceBound (.int .i64 i) y c).run P w=.ok i.toNat w:=by
 simp[Instr.sliceBound,asIntOf,h0,h1]
theorem jw {sd:Bool}{len cap:Nat}{lo hi:Option Operand}{a b:Int}(ha:vm ρ lo 0 a)(hb:vm ρ hi len b)(h0:0<=a)(h1:a<=b)(h2:b<=cap)(w:World) :
  (Instr.sliceBounds sd len cap (lo.map ρ) (hi.map ρ) none).run P w=.ok (a.toNat,b.toNat,cap) w:=by
 rcases ha with⟨rfl,rfl⟩|⟨y,rfl,hy⟩<;>rcases hb with⟨rfl,rfl⟩|⟨z,rfl,hz⟩
 ·simp[Instr.sliceBounds]
 ·simp[Instr.sliceBounds,hz,lB (by omega:(0:Int)<=b) h2]
 ·simp[Instr.sliceBounds,hy,lB h0 h1]
 ·have hbn:((b.toNat:Nat):Int)=b:=by omega
  simp[Instr.sliceBounds,hy,hz,lB (by omega:(0:Int)<=b) h2,lB h0 (by rw[hbn];exact h1)]
theorem IC {t:TypeId}{x:Operand}{lo hi:Option Operand}(ho:o.op=.slice t x lo hi none)(hu:P.underlying t=some .string){s:List UInt8}{a b:Int}(hx:aL w G (.str s) (ρ x))
  (ha:vm ρ lo 0 a) (hb:vm ρ hi s.length b) (h0:0<=a) (h1:a<=b) (h2:b<=s.length) :
  ∃u,(execOp ρ o).run P w=.ok (.value u) w/\aL w G (.str ((s.take b.toNat).drop a.toNat)) u:=by
 obtain⟨s',UN,rfl⟩:=hx.kM
 have hl:s'.data.toList.length=s'.size:=by simp
 rw[hl]at hb h2
 refine⟨.string (s'.extract a.toNat b.toNat),?_,.str _ _ ?_⟩
 ·simp only[execOp,ho,UN,Sem.run_bind]
  simp[Instr.sliceAt,Instr.slice,run_underlying hu,jw ha hb h0 h1 h2]
 ·rw[ByteArray.data_extract,Array.toList_extract]
  simp only[List.extract]
  rw[List.drop_take]
theorem Lv {sz:Nat}{rows:List (List AV)}(h:fits sz rows=true)(n m:Nat):fits sz ((rows.take n).drop m)=true:=by
 simp only[fits,List.all_eq_true]at h ⊢
 exact λr hr=>h r (List.mem_of_mem_take (List.mem_of_mem_drop hr))
theorem J3 {rows:List (List AV)}{n m i:Nat}{r:List AV}(h:((rows.take n).drop m)[i]?=some r):rows[m+i]?=some r:=by
 rw[List.getElem?_drop,List.getElem?_take]at h
 split at h
 ·exact h
 ·cases h
theorem Sb {sz:Nat}{rows:List (List AV)}{a:Addr}{len cap:Nat}(h:aL w G (.cN sz rows) (.slice (some a) len cap)){lo hi:Nat}(h1:lo<=hi)(h2:hi<=rows.length) :
  len=rows.length/\rows.length<=cap/\aL w G (.cN sz ((rows.take hi).drop lo)) (.slice (if cap=lo then some a else some (a.add (lo*sz))) (hi-lo) (cap-lo)):=by
 cases h with
 |cN _ _ _ _ nS eJ bY hY mU tH hc hr=>
  refine⟨rfl,eJ,?_⟩
  have hlen:((rows.take hi).drop lo).length=hi-lo:=by simp;omega
  have xH:∀r∈(rows.take hi).drop lo,r∈rows:=λr hr=>List.mem_of_mem_take (List.mem_of_mem_drop hr)
  have Lw:a.add (lo*sz)=⟨a.block,a.off+lo*sz,none⟩:=by
   obtain⟨b,off,spot⟩:=a
   simp only at nS;subst nS
   exact jO _ _ _
  split
  ·rename_i Rw
   have:(rows.take hi).drop lo=[]:=by apply List.eq_nil_of_length_eq_zero;omega
   rw[this]
   have h0:hi-lo=([]:List (List AV)).length:=by simp;omega
   rw[h0]
   exact .cN _ _ a _ nS (by simp) (by simp[fits]) (by simp) (by simp) (by simp) (λi r j c h _=>by simp at h) (λi r j c v h _=>by simp at h)
  ·rw[<-hlen]
   refine .cN _ _ _ _ (by rw[Lw]) (by omega) (Lv bY _ _) (λr h=>hY r (xH r h)) (λr h=>mU r (xH r h)) (λr h=>tH r (xH r h)) (λi r j c e1 e2=>?_) (λi r j c v e1 e2 e3=>?_)
   ·have:=hc _ r j c (J3 e1) e2
    rw[Lw]
    simp only
    rw[show a.off+lo*sz+(i*sz+j)=a.off+((lo+i)*sz+j) by rw[Nat.add_mul];omega]
    exact this
   ·rw[Lw]at e3
    simp only at e3
    rw[show a.off+lo*sz+(i*sz+j)=a.off+((lo+i)*sz+j) by rw[Nat.add_mul];omega]at e3
    exact hr _ r j c v (J3 e1) e2 e3
theorem Aw {t e:TypeId}{x:Operand}{lo hi:Option Operand}(ho:o.op=.slice t x lo hi none)(hu:P.underlying t=some (.slice e)){sz:Nat}(dL:ck P e sz=true){rows:List (List AV)}{a b:Int}(hx:aL w G (.cN sz rows) (ρ x))
  (ha:vm ρ lo 0 a) (hb:vm ρ hi rows.length b) (h0:0<=a) (h1:a<=b) (h2:b<=rows.length) :
  ∃u,(execOp ρ o).run P w=.ok (.value u) w/\aL w G (.cN sz ((rows.take b.toNat).drop a.toNat)) u:=by
 have hx0:=hx
 generalize FI:ρ x=xv at hx
 have hs:∃ad len cap,xv=.slice (some ad) len cap:=by cases hx;exact⟨_,_,_,rfl⟩
 obtain⟨ad,len,cap,rfl⟩:=hs
 obtain⟨e1,e2,e3⟩:=Sb hx (lo:=a.toNat) (hi:=b.toNat) (by omega) (by omega)
 subst e1
 refine⟨_,?_,e3⟩
 simp only[execOp,ho,FI,Sem.run_bind]
 simp only[Instr.sliceAt,Sem.run_bind,run_underlying hu,Result.andThen_ok,Instr.slice,Option.map_none,jw ha hb h0 h1 (by omega:b<=(cap:Int)),dn dL,Sem.run_pure]
 by_cases hc:cap=a.toNat<;>simp[hc]
theorem Ay {t e:TypeId}{x:Operand}{lo hi mx:Option Operand}(ho:o.op=.slice t x lo hi mx)(hu:P.underlying t=some (.slice e)){sz:Nat}(dL:ck P e sz=true)(hx:aL w G .U (ρ x))
  (ha:vm ρ lo 0 0) (hb:vm ρ hi 0 0) (hm:mx=none\/∃z,mx=some z/\hi.isSome=true/\ρ z=.int .i64 0) :
  (execOp ρ o).run P w=.ok (.value (.slice none 0 0)) w:=by
 generalize FI:ρ x=xv at hx
 cases hx
 simp only[execOp,ho,FI,Sem.run_bind]
 rcases hm with rfl|⟨z,rfl,hh,hz⟩
 ·have kW:vm ρ hi ((0:Nat):Int) 0:=hb
  simp only[Instr.sliceAt,Sem.run_bind,run_underlying hu,Result.andThen_ok,Instr.slice,Option.map_none,jw (len:=0) (cap:=0) ha kW (by omega) (by omega) (by simp),dn dL,Sem.run_pure]
  simp
 ·have key:(Instr.sliceBounds true 0 0 (lo.map ρ) (hi.map ρ) (some (ρ z))).run P w=.ok (0,0,0) w:=by
   rcases ha with⟨rfl,_⟩|⟨y,rfl,hy⟩<;>rcases hb with⟨rfl,_⟩|⟨y',rfl,UO⟩
   ·simp at hh
   ·simp[Instr.sliceBounds,hz,UO,Instr.sliceBound,asIntOf]
   ·simp at hh
   ·simp[Instr.sliceBounds,hz,hy,UO,Instr.sliceBound,asIntOf]
  simp only[Instr.sliceAt,Sem.run_bind,run_underlying hu,Result.andThen_ok,Instr.slice,Option.map_some,key,dn dL,Sem.run_pure]
  simp
theorem yL {t e:TypeId}{x:Operand}{lo hi mx:Option Operand}(ho:o.op=.slice t x lo hi mx)(hu:P.underlying t=some (.slice e)){sz:Nat}(dL:ck P e sz=true)(hx:aL w G .emp (ρ x))
  (ha:vm ρ lo 0 0) (hb:vm ρ hi 0 0) (hm:mx=none\/∃z,mx=some z/\hi.isSome=true/\ρ z=.int .i64 0) :
  ∃u,(execOp ρ o).run P w=.ok (.value u) w/\aL w G .emp u:=by
 generalize FI:ρ x=xv at hx
 obtain⟨ad,rfl⟩:∃ad,xv=.slice (some ad) 0 0:=by cases hx;exact⟨_,rfl⟩
 refine⟨_,?_,.emp ad⟩
 simp only[execOp,ho,FI,Sem.run_bind]
 rcases hm with rfl|⟨z,rfl,hh,hz⟩
 ·have kW:vm ρ hi ((0:Nat):Int) 0:=hb
  simp only[Instr.sliceAt,Sem.run_bind,run_underlying hu,Result.andThen_ok,Instr.slice,Option.map_none,jw (len:=0) (cap:=0) ha kW (by omega) (by omega) (by simp),dn dL,Sem.run_pure]
  simp
 ·have key:(Instr.sliceBounds true 0 0 (lo.map ρ) (hi.map ρ) (some (ρ z))).run P w=.ok (0,0,0) w:=by
   rcases ha with⟨rfl,_⟩|⟨y,rfl,hy⟩<;>rcases hb with⟨rfl,_⟩|⟨y',rfl,UO⟩
   ·simp at hh
   ·simp[Instr.sliceBounds,hz,UO,Instr.sliceBound,asIntOf]
   ·simp at hh
   ·simp[Instr.sliceBounds,hz,hy,UO,Instr.sliceBound,asIntOf]
  simp only[Instr.sliceAt,Sem.run_bind,run_underlying hu,Result.andThen_ok,Instr.slice,Option.map_some,key,dn dL,Sem.run_pure]
  simp
theorem Az {t e:TypeId}{x z:Operand}{lo hi:Option Operand}(ho:o.op=.slice t x lo hi (some z))(hu:P.underlying t=some (.slice e)){sz s:Nat}(dL:ck P e sz=true){rows:List (List AV)}(hx:aL w G (.cN s rows) (ρ x))
  (ha:vm ρ lo 0 0) (hb:vm ρ hi rows.length 0) (hh:hi.isSome=true) (hz:ρ z=.int .i64 0) :
  ∃u,(execOp ρ o).run P w=.ok (.value u) w/\aL w G .emp u:=by
 generalize FI:ρ x=xv at hx
 have hs:∃ad len cap,xv=.slice (some ad) len cap:=by cases hx;exact⟨_,_,_,rfl⟩
 obtain⟨ad,len,cap,rfl⟩:=hs
 refine⟨_,?_,.emp ad⟩
 have key:(Instr.sliceBounds true len cap (lo.map ρ) (hi.map ρ) (some (ρ z))).run P w=.ok (0,0,0) w:=by
  rcases ha with⟨rfl,_⟩|⟨y,rfl,hy⟩<;>rcases hb with⟨rfl,_⟩|⟨y',rfl,UO⟩
  ·simp at hh
  ·simp[Instr.sliceBounds,hz,UO,Instr.sliceBound,asIntOf]
  ·simp at hh
  ·simp[Instr.sliceBounds,hz,hy,UO,Instr.sliceBound,asIntOf]
 simp only[execOp,ho,FI,Sem.run_bind]
 simp only[Instr.sliceAt,Sem.run_bind,run_underlying hu,Result.andThen_ok,Instr.slice,Option.map_some,key,dn dL,Sem.run_pure]
 simp
theorem run_checkKey {t:TypeId}{kk:SK}(ht:mV P t kk=true)(b:Bool)(n:Nat)(v:Value)(w:World):(Instr.checkKey b (n+1) t v).run P w=.ok () w:=by
 unfold mV at ht
 cases kk<;>simp only at ht<;>split at ht<;>(try cases ht)
 all_goals (rename_i hu;simp[Instr.checkKey,run_underlying hu])
def vn (w:World)(G:aK)(es:List (AV×AV))(fs:List MapEntry):Prop:=
 fs.length=es.length/\∀(i:Nat) k v e,es[i]?=some (k,v)->fs[i]?=some e->aL w G k e.key/\aL w G v e.val/\v.bR=true/\k.bR=true
theorem vn.tail {x:AV×AV}{es:List (AV×AV)}{f:MapEntry}{fs:List MapEntry}(h:vn w G (x::es) (f::fs)):vn w G es fs:=
 ⟨by have:=h.1;simpa using this,λi k v e h1 h2=>h.2 (i+1) k v e (by simpa using h1) (by simpa using h2)⟩
theorem qM {t:TypeId}{d:TypeDesc}{kk:SK}(ht:mV P t kk=true)(hu:P.underlying t=some d){a b:AV}{x y:Value}{r:Bool}(h:Cp kk a b=some r)(ha:aL w G a x)(hb:aL w G b y):Instr.sameNow d x y=some r:=by
 unfold Cp at h
 split at h
 ·cases h
  rw[ha.iR,hb.iR]
  simp only[mV,hu]at ht
  split at ht
  ·rename_i hd;cases hd;rfl
  ·cases ht
 ·split at h
  ·rename_i k p l q hk
   cases h
   subst hk
   rw[ha.eS,hb.eS]
   simp only[mV,hu]at ht
   split at ht
   ·rename_i hd;cases hd;simp[Instr.sameNow]
   ·cases ht
  ·cases h
 ·cases h
  obtain⟨s,rfl,rfl⟩:=ha.kM
  obtain⟨s',rfl,rfl⟩:=hb.kM
  simp only[mV,hu]at ht
  split at ht
  ·rename_i hd;cases hd
   simp only[Instr.sameNow,Option.some.injEq]
   rw[beq_toListBytes,ByteArray.toList_eq,ByteArray.toList_eq]
  ·cases ht
 ·cases h
theorem qN {t:TypeId}{d:TypeDesc}{kk:SK}(ht:mV P t kk=true)(hu:P.underlying t=some d){k:AV}{x:Value}(hk:aL w G k x):∀(es:List (AV×AV))(fs:List MapEntry)(i:Nat)(r:Option AV),
  vn w G es fs->pz kk k es=some r->∃q,Instr.findNow d x fs i=some q/\
   (match r with
    |none=>q=none
    |some v=>∃j e,q=some (i+j,e.val)/\fs[j]?=some e/\aL w G v e.val/\v.bR=true)
 |[],[],i,r,_,h=>by simp[pz]at h;subst h;exact⟨none,rfl,rfl⟩
 |[],_::_,_,_,h,_=>by simp[vn]at h
 |_::_,[],_,_,h,_=>by simp[vn]at h
 |(a,v)::es,f::fs,i,r,hM,h=>by
  obtain⟨h1,h2,h3,_⟩:=hM.2 0 a v f rfl rfl
  simp only[pz]at h
  split at h
  ·rename_i he
   cases h
   exact⟨some (i,f.val),by simp[Instr.findNow,qM ht hu he hk h1],0,f,rfl,rfl,h2,h3⟩
  ·rename_i he
   obtain⟨q,e1,e2⟩:=qN ht hu hk es fs (i+1) r hM.tail h
   refine⟨q,by simp[Instr.findNow,qM ht hu he hk h1,e1],?_⟩
   cases r with
   |none=>exact e2
   |some v'=>
    obtain⟨j,e,g1,g2,g3⟩:=e2
    exact⟨j+1,e,by rw[g1,show i+1+j=i+(j+1) by omega],by simpa using g2,g3⟩
  ·cases h
theorem run_findKey {t:TypeId}{kk:SK}(ht:mV P t kk=true){k:AV}{x:Value}(hk:aL w G k x){es:List (AV×AV)}{fs:List MapEntry}{r:Option AV}(hM:vn w G es fs)(hf:pz kk k es=some r)(w':World) :
  ∃q,(Instr.findKey t x fs).run P w'=.ok q w'/\
   (match r with
    |none=>q=none
    |some v=>∃j e,q=some (j,e.val)/\fs[j]?=some e/\aL w G v e.val/\v.bR=true):=by
 have hu:∃d,P.underlying t=some d:=by
  unfold mV at ht
  cases kk<;>simp only at ht<;>split at ht<;>(try cases ht)<;>exact⟨_,by assumption⟩
 obtain⟨d,hu⟩:=hu
 obtain⟨q,e1,e2⟩:=qN ht hu hk es fs 0 r hM hf
 refine⟨q,by simp[Instr.findKey,run_underlying hu,e1],?_⟩
 cases r with
 |none=>exact e2
 |some v=>obtain⟨j,e,g1,g2⟩:=e2;exact⟨j,e,by simpa using g1,g2⟩
theorem Ny {t kt et:TypeId}{m k:Operand}{ok:Bool}(ho:o.op=.lookup t m k ok)(hu:P.underlying t=some (.map kt et)){kk:SK}(ht:mV P kt kk=true){ie:TypeInfo}{z:Value}(hie:P.info? et=some ie)(hz:ie.zero=some z){zero:AV}(M0:tL z zero=true)
  {st:aj} (hI:Inv w G st) {am ak:AV} {es:List (AV×AV)} (o6:(am=.eX/\es=[])\/∃id,am=.map id/\st[id]?=some (.map es)) {r:Option AV} (hf:pz kk ak es=some r) (hm:aL w G am (ρ m)) (hk:aL w G ak (ρ k)) :
  ∃u,(execOp ρ o).run P w=.ok (.value u) w/\aL w G (if ok then .fm [r.getD zero,.bool r.isSome] else r.getD zero) u/\(r.getD zero).bR=true:=by
 obtain⟨hz1,hz2,_⟩:=vg M0 w G
 have hzv:(zeroValue et).run P w=.ok z w:=by simp[zeroValue,typeInfo,hie,hz]
 have two:∀(v:AV) (x:Value) (b:Bool),aL w G v x->aL w G (if ok then .fm [v,.bool b] else v) (if ok=true then Value.tuple #[x,.bool b] else x):=by
  intro v x b hv
  cases ok
  ·exact hv
  ·refine .fm _ _ rfl λi c y h1 h2=>?_
   match i with
   |0=>simp at h1 h2;subst h1;subst h2;exact hv
   |1=>simp at h1 h2;subst h1;subst h2;exact .bool _
   |i+2=>simp at h1
 have fin:∀(fs:Array MapEntry),vn w G es fs.toList->∃x b,aL w G (r.getD zero) x/\b=r.isSome/\(r.getD zero).bR=true/\∃q,(Instr.findKey kt (ρ k) fs.toList).run P w=.ok q w/\((∃j,q=some (j,x)/\b=true)\/(q=none/\x=z/\b=false)):=by
  intro fs hM
  obtain⟨q,e1,e2⟩:=run_findKey ht hk hM hf w
  cases r with
  |none=>exact⟨z,false,hz1,rfl,hz2,q,e1,.inr ⟨e2,rfl,rfl⟩⟩
  |some v=>
   obtain⟨j,e,g1,g2,g3,g4⟩:=e2
   exact⟨e.val,true,g3,rfl,g4,q,e1,.inl ⟨j,g1,rfl⟩⟩
 rcases o6 with⟨rfl,rfl⟩|⟨id,rfl,eG⟩
 ·generalize hmv:ρ m=mv at hm
  cases hm
  obtain⟨x,b,h1,rfl,h3,q,h4,h5⟩:=fin #[] ⟨rfl,λi k v e h _=>by simp at h⟩
  refine⟨_,?_,two _ _ _ h1,h3⟩
  have Zc:=run_checkKey (w:=w) ht (#[]:Array MapEntry).isEmpty 9999 (ρ k)
  simp only[execOp,ho,hmv,Sem.run_bind]
  simp only[Instr.lookup,Sem.run_bind,run_underlying hu,Result.andThen_ok,Sem.run_pure,Zc,h4]
  rcases h5 with⟨j,rfl,hb⟩|⟨rfl,rfl,hb⟩
  ·simp[hb]
  ·simp[hb,hzv]
 ·generalize hmv:ρ m=mv at hm
  obtain⟨loc,hl,R4⟩:=hI.loc eG
  cases hm with
  |map _ loc' bk nA yJ kW=>
   rw[hl]at nA;cases nA
   obtain⟨g1,g2,b0,se,clock,g3,g4,g5,g6,g7⟩:=R4
   rw[kW]at g3;cases g3
   obtain⟨x,b,h1,rfl,h3,q,h4,h5⟩:=fin se ⟨by simpa using g6,λi k v e e1 e2=>g7 i k v e e1 (by simpa using e2)⟩
   refine⟨_,?_,two _ _ _ h1,h3⟩
   have Zc:=run_checkKey (w:=w) ht se.isEmpty 9999 (ρ k)
   have Sc:(getObj bk).run P w=.ok (.map se clock) w:=by simp[getObj,Sem.run,g4]
   simp only[execOp,ho,hmv,Sem.run_bind]
   simp only[Instr.lookup,Sem.run_bind,run_underlying hu,Result.andThen_ok,Sem.run_pure,Sc,Zc,h4]
   rcases h5 with⟨j,rfl,hb⟩|⟨rfl,rfl,hb⟩
   ·simp[hb]
   ·simp[hb,hzv]
end Ax
namespace Ax
open Go
variable {P:Program}{w w':World}{G G':aK}{β:List kO}
def Loc.iQ (l:Loc):Option Nat:=if l.cap=0 then none else l.a.map (·.block)
def eM (b:Nat):List (List AV)->List (List Value)->Nat
 |r::rs,x::xs=>bM b r x+eM b rs xs
 |_,_=>0
def gu (b:Nat)(loc:Loc):fh->Nat
 |.rows _ _ rows=>(if loc.iQ=some b then 1 else 0)+eM b rows loc.vals
 |.map _=>if loc.iQ=some b then 1 else 0
def bS (b:Nat):List Loc->List fh->Nat
 |l::ls,o::st=>gu b l o+bS b ls st
 |_,_=>0
def fj (b:Nat):List kO->List (List AV)->Nat
 |g::β,r::bx=>(if g.iQ=some b then 1 else 0)+bM b r g.vals+fj b β bx
 |_,_=>0
theorem tO (b:Nat):∀(rs:List (List AV))(xs:List (List Value))(i:Nat) r x,rs[i]?=some r->xs[i]?=some x->bM b r x<=eM b rs xs
 |[],_,_,_,_,h,_=>by simp at h
 |_::_,[],_,_,_,_,h=>by simp at h
 |r::rs,x::xs,0,r',x',h,k=>by simp at h k;subst h;subst k;simp only[eM];omega
 |r::rs,x::xs,i+1,r',x',h,k=>by
  have:=tO b rs xs i r' x' (by simpa using h) (by simpa using k)
  simp only[eM];omega
theorem qp (b:Nat):∀(rs:List (List AV))(xs:List (List Value))(i:Nat) r x r' x',rs[i]?=some r->xs[i]?=some x->
  eM b (rs.set i r') (xs.set i x')+bM b r x=eM b rs xs+bM b r' x'
 |[],_,_,_,_,_,_,h,_=>by simp at h
 |_::_,[],_,_,_,_,_,_,h=>by simp at h
 |r::rs,x::xs,0,r1,x1,r',x',h,k=>by simp at h k;subst h;subst k;simp only[List.set_cons_zero,eM];omega
 |r::rs,x::xs,i+1,r1,x1,r',x',h,k=>by
  have:=qp b rs xs i r1 x1 r' x' (by simpa using h) (by simpa using k)
  simp only[List.set_cons_succ,eM];omega
theorem yM (b:Nat):∀(rs:List (List AV))(xs:List (List Value)),(∀r∈rs,AV.dj r=true)->eM b rs xs=0
 |[],_,_=>by simp[eM]
 |_::_,[],_=>by simp[eM]
 |r::rs,x::xs,h=>by
  simp only[eM,cU b r x (h r (by simp)),yM b rs xs λr' hr=>h r' (by simp[hr])]
theorem lC (b:Nat):∀(ls:List Loc)(st:List fh)(i:Nat) l o,ls[i]?=some l->st[i]?=some o->gu b l o<=bS b ls st
 |[],_,_,_,_,h,_=>by simp at h
 |_::_,[],_,_,_,_,h=>by simp at h
 |l::ls,o::st,0,l',o',h,k=>by simp at h k;subst h;subst k;simp only[bS];omega
 |l::ls,o::st,i+1,l',o',h,k=>by
  have:=lC b ls st i l' o' (by simpa using h) (by simpa using k)
  simp only[bS];omega
theorem FO (b:Nat):∀(ls:List Loc)(st:List fh)(i j:Nat) l o l' o',i≠j->ls[i]?=some l->st[i]?=some o->ls[j]?=some l'->st[j]?=some o'->gu b l o+gu b l' o'<=bS b ls st
 |[],_,_,_,_,_,_,_,_,h,_,_,_=>by simp at h
 |_::_,[],_,_,_,_,_,_,_,_,h,_,_=>by simp at h
 |l::ls,o::st,0,0,_,_,_,_,h,_,_,_,_=>absurd rfl h
 |l::ls,o::st,0,j+1,l1,o1,l2,o2,_,h1,h2,h3,h4=>by
  simp at h1 h2;subst h1;subst h2
  have:=lC b ls st j l2 o2 (by simpa using h3) (by simpa using h4)
  simp only[bS];omega
 |l::ls,o::st,i+1,0,l1,o1,l2,o2,_,h1,h2,h3,h4=>by
  simp at h3 h4;subst h3;subst h4
  have:=lC b ls st i l1 o1 (by simpa using h1) (by simpa using h2)
  simp only[bS];omega
 |l::ls,o::st,i+1,j+1,l1,o1,l2,o2,h,h1,h2,h3,h4=>by
  have:=FO b ls st i j l1 o1 l2 o2 (by omega) (by simpa using h1) (by simpa using h2) (by simpa using h3) (by simpa using h4)
  simp only[bS];omega
theorem sA (b:Nat):∀(ls:List Loc)(st:List fh)(i:Nat) l o l' o',ls[i]?=some l->st[i]?=some o->
  bS b (ls.set i l') (st.set i o')+gu b l o=bS b ls st+gu b l' o'
 |[],_,_,_,_,_,_,h,_=>by simp at h
 |_::_,[],_,_,_,_,_,_,h=>by simp at h
 |l::ls,o::st,0,l1,o1,l2,o2,h,k=>by simp at h k;subst h;subst k;simp only[List.set_cons_zero,bS];omega
 |l::ls,o::st,i+1,l1,o1,l2,o2,h,k=>by
  have:=sA b ls st i l1 o1 l2 o2 (by simpa using h) (by simpa using k)
  simp only[List.set_cons_succ,bS];omega
theorem pG (b:Nat):∀(ls ls':List Loc)(st bK:List fh),ls.length=st.length->bS b (ls++ls') (st++bK)=bS b ls st+bS b ls' bK
 |[],_,[],_,_=>by simp[bS]
 |[],_,_::_,_,h=>by simp at h
 |_::_,_,[],_,h=>by simp at h
 |l::ls,ls',o::st,bK,h=>by
  simp only[List.cons_append,bS]
  rw[pG b ls ls' st bK (by simpa using h)];omega
theorem lD (b:Nat):∀(β:List kO)(bx:List (List AV))(i:Nat) g r,β[i]?=some g->bx[i]?=some r->(if g.iQ=some b then 1 else 0)+bM b r g.vals<=fj b β bx
 |[],_,_,_,_,h,_=>by simp at h
 |_::_,[],_,_,_,_,h=>by simp at h
 |g::β,r::bx,0,g',r',h,k=>by simp at h k;subst h;subst k;simp only[fj];omega
 |g::β,r::bx,i+1,g',r',h,k=>by
  have:=lD b β bx i g' r' (by simpa using h) (by simpa using k)
  simp only[fj];omega
theorem vV (b:Nat):∀(β:List kO)(bx:List (List AV))(i:Nat) g r g' r',β[i]?=some g->bx[i]?=some r->
  fj b (β.set i g') (bx.set i r')+((if g.iQ=some b then 1 else 0)+bM b r g.vals)=fj b β bx+((if g'.iQ=some b then 1 else 0)+bM b r' g'.vals)
 |[],_,_,_,_,_,_,h,_=>by simp at h
 |_::_,[],_,_,_,_,_,_,h=>by simp at h
 |g::β,r::bx,0,g1,r1,g2,r2,h,k=>by simp at h k;subst h;subst k;simp only[List.set_cons_zero,fj];omega
 |g::β,r::bx,i+1,g1,r1,g2,r2,h,k=>by
  have:=vV b β bx i g1 r1 g2 r2 (by simpa using h) (by simpa using k)
  simp only[List.set_cons_succ,fj];omega
theorem FQ (b:Nat):∀(β:List kO)(bx:List (List AV))(i j:Nat) g r g' r',i≠j->β[i]?=some g->bx[i]?=some r->β[j]?=some g'->bx[j]?=some r'->
  ((if g.iQ=some b then 1 else 0)+bM b r g.vals)+((if g'.iQ=some b then 1 else 0)+bM b r' g'.vals)<=fj b β bx
 |[],_,_,_,_,_,_,_,_,h,_,_,_=>by simp at h
 |_::_,[],_,_,_,_,_,_,_,_,h,_,_=>by simp at h
 |l::ls,o::st,0,0,_,_,_,_,h,_,_,_,_=>absurd rfl h
 |l::ls,o::st,0,j+1,l1,o1,l2,o2,_,h1,h2,h3,h4=>by
  simp at h1 h2;subst h1;subst h2
  have:=lD b ls st j l2 o2 (by simpa using h3) (by simpa using h4)
  simp only[fj];omega
 |l::ls,o::st,i+1,0,l1,o1,l2,o2,_,h1,h2,h3,h4=>by
  simp at h3 h4;subst h3;subst h4
  have:=lD b ls st i l1 o1 (by simpa using h1) (by simpa using h2)
  simp only[fj];omega
 |l::ls,o::st,i+1,j+1,l1,o1,l2,o2,h,h1,h2,h3,h4=>by
  have:=FQ b ls st i j l1 o1 l2 o2 (by omega) (by simpa using h1) (by simpa using h2) (by simpa using h3) (by simpa using h4)
  simp only[fj];omega
structure vW (w:World)(G:aK)(row:List AV)(g:kO):Prop where
 rep:bV w G row g.vals
 zG:AV.aH row=true
 nB:(g.iQ=none/\row=[])\/∃b c e,g.iQ=some b/\w.heap[b]?=some (.cells c e (0,0))/\row.length<=c.size/\G.kg b=some 0/\∀(k:Nat) x,g.vals[k]?=some x->w.cell? ⟨b,k,none⟩=some x
structure jg (w:World)(G:aK)(β:List kO)(bx:aS):Prop where
 len:β.length=bx.length
 box:∀(j:Nat) row g,bx[j]?=some row->β[j]?=some g->vW w G row g
def dw (w:World)(G:aK)(w':World)(G':aK)(b:Nat):Prop:=G'.kg b=G.kg b/\w'.heap[b]?=w.heap[b]?
theorem nT {b o:Nat}(h:w'.heap[b]?=w.heap[b]?):w'.cell? ⟨b,o,none⟩=w.cell? ⟨b,o,none⟩:=by simp[World.cell?,h]
theorem vW.iu {row:List AV}{g:kO}(h:vW w G row g)(hs:pF w G w' G')(hf:∀b,0<(if g.iQ=some b then 1 else 0)+bM b row g.vals->dw w G w' G' b):vW w' G' row g where
 rep:=h.rep.mono hs λb hb=>hf b (by omega)
 zG:=h.zG
 nB:=by
  rcases h.nB with h|⟨b,c,e,h1,h2,h3,h4,h5⟩
  ·exact .inl h
  ·obtain⟨a1,a2⟩:=hf b (by simp[h1];omega)
   exact .inr ⟨b,c,e,h1,a2.trans h2,h3,a1.trans h4,λk x hx=>(nT a2).trans (h5 k x hx)⟩
theorem nC.iu {ob:fh}{loc:Loc}(h:nC w G ob loc)(hs:pF w G w' G')(hf:∀b,0<gu b loc ob->dw w G w' G' b):nC w' G' ob loc:=by
 cases ob with
 |rows bP sz rows=>
  obtain⟨h1,h2,h3⟩:=h
  refine⟨h1,h2,h3.fit,h3.zG,h3.len,h3.size,h3.p6,λi r xs e1 e2=>?_,?_⟩
  ·refine(h3.qo i r xs e1 e2).mono hs λb hb=>hf b ?_
   have:=tO b rows loc.vals i r xs e1 e2
   simp only[gu];omega
  ·rcases h3.nB with h|⟨b,off,c,e,g1,g2,g3,g4,g5,g6,g7⟩
   ·exact .inl h
   ·obtain⟨a1,a2⟩:=hf b (by
     have:loc.iQ=some b:=by unfold Loc.iQ;rw[if_neg (by omega),g1];rfl
     simp[gu,this];omega)
    exact .inr ⟨b,off,c,e,g1,g2,a2.trans g3,g4,g5,a1.trans g6,λi xs j x e1 e2=>(nT a2).trans (g7 i xs j x e1 e2)⟩
 |map es=>
  obtain⟨h1,h2,b,se,clock,h3,h4,h5,h6,h7⟩:=h
  obtain⟨a1,a2⟩:=hf b (by
   have:loc.iQ=some b:=by unfold Loc.iQ;rw[if_neg (by omega),h3];rfl
   simp[gu,this])
  refine⟨h1,h2,b,se,clock,h3,a2.trans h4,a1.trans h5,h6,λi k v e e1 e2=>?_⟩
  obtain⟨g1,g2,g3,g4⟩:=h7 i k v e e1 e2
  exact⟨g1.iu hs λb hb=>by rw[dN b k _ g4]at hb;omega,g2.iu hs λb hb=>by rw[dN b v _ g3]at hb;omega,g3,g4⟩
theorem aL.held {a:AV}{v:Value}{b:Nat}(h:aL w G a v):0<eH b a v->b<w.heap.size:=by
 induction h with
 |agg cs vs hl h ih=>
  intro hb
  simp only[eH]at hb
  have key:∀(cs:List AV) (vs:List Value),0<bM b cs vs->∃(i:Nat) (c:AV) (v:Value),cs[i]?=some c/\vs[i]?=some v/\0<eH b c v:=by
   intro cs
   induction cs with
   |nil=>intro vs h;rw[Au]at h;omega
   |cons c cs ih=>
    intro vs h
    cases vs with
    |nil=>simp[bM]at h
    |cons v vs=>
     simp only[bM]at h
     by_cases hc:0<eH b c v
     ·exact⟨0,c,v,rfl,rfl,hc⟩
     ·obtain⟨i,c',v',e1,e2,e3⟩:=ih vs (by omega)
      exact⟨i+1,c',v',by simpa using e1,by simpa using e2,e3⟩
  obtain⟨i,c,v,e1,e2,e3⟩:=key cs vs.toList hb
  exact ih i c v e1 (by simpa using e2) e3
 |fm cs vs hl h ih=>
  intro hb
  simp only[eH]at hb
  have key:∀(cs:List AV) (vs:List Value),0<bM b cs vs->∃(i:Nat) (c:AV) (v:Value),cs[i]?=some c/\vs[i]?=some v/\0<eH b c v:=by
   intro cs
   induction cs with
   |nil=>intro vs h;rw[Au]at h;omega
   |cons c cs ih=>
    intro vs h
    cases vs with
    |nil=>simp[bM]at h
    |cons v vs=>
     simp only[bM]at h
     by_cases hc:0<eH b c v
     ·exact⟨0,c,v,rfl,rfl,hc⟩
     ·obtain⟨i,c',v',e1,e2,e3⟩:=ih vs (by omega)
      exact⟨i+1,c',v',by simpa using e1,by simpa using e2,e3⟩
  obtain⟨i,c,v,e1,e2,e3⟩:=key cs vs.toList hb
  exact ih i c v e1 (by simpa using e2) e3
 |own sz rows a cap nS eJ bY hY mU tH hc hr gq eF ih=>
  intro hb
  simp only[eH]at hb
  split at hb
  ·rename_i e
   obtain⟨c,e',h1,_⟩:=eF
   rw[<-e];exact(Array.getElem?_eq_some_iff.1 h1).1
  ·omega
 |raw sz rows a cap nS eJ bY hY mU tH hc hr gq eF ih=>
  intro hb
  simp only[eH]at hb
  split at hb
  ·rename_i e
   obtain⟨c,e',h1,_⟩:=eF
   rw[<-e];exact(Array.getElem?_eq_some_iff.1 h1).1
  ·omega
 |_=>intro hb;simp[eH]at hb
theorem bV.held {as:List AV}{xs:List Value}{b:Nat}(h:bV w G as xs)(hb:0<bM b as xs):b<w.heap.size:=by
 have:aL w G (.agg as) (.agg xs.toArray):=.agg _ _ (by simpa using h.1) λi c v e1 e2=>h.2 i c v e1 (by simpa using e2)
 exact this.held (by simpa [eH] using hb)
theorem nC.held {ob:fh}{loc:Loc}{b:Nat}(h:nC w G ob loc)(hb:0<gu b loc ob):b<w.heap.size:=by
 have iQ:loc.iQ=some b->b<w.heap.size:=by
  intro e
  unfold Loc.iQ at e
  split at e
  ·cases e
  ·rename_i eJ
   cases ob with
   |rows bP sz rows=>
    obtain⟨_,_,h3⟩:=h
    rcases h3.nB with⟨h0,_⟩|⟨b',off,c,e',g1,g2,g3,_⟩
    ·exact absurd h0 eJ
    ·rw[g1]at e;simp at e;subst e;exact(Array.getElem?_eq_some_iff.1 g3).1
   |map es=>
    obtain⟨_,_,b',se,clock,h3,h4,_⟩:=h
    rw[h3]at e;simp at e;subst e;exact(Array.getElem?_eq_some_iff.1 h4).1
 cases ob with
 |rows bP sz rows=>
  simp only[gu]at hb
  split at hb
  ·exact iQ (by assumption)
  ·obtain⟨_,_,h3⟩:=h
   have key:∀(rs:List (List AV)) (xs:List (List Value)),0<eM b rs xs->∃(i:Nat) (r:List AV) (x:List Value),rs[i]?=some r/\xs[i]?=some x/\0<bM b r x:=by
    intro rs
    induction rs with
    |nil=>intro xs h;simp[eM]at h
    |cons r rs ih=>
     intro xs h
     cases xs with
     |nil=>simp[eM]at h
     |cons x xs=>
      simp only[eM]at h
      by_cases hc:0<bM b r x
      ·exact⟨0,r,x,rfl,rfl,hc⟩
      ·obtain⟨i,r',x',e1,e2,e3⟩:=ih xs (by omega)
       exact⟨i+1,r',x',by simpa using e1,by simpa using e2,e3⟩
   obtain⟨i,r,x,e1,e2,e3⟩:=key rows loc.vals (by omega)
   exact(h3.qo i r x e1 e2).held e3
 |map es=>
  simp only[gu]at hb
  split at hb
  ·exact iQ (by assumption)
  ·omega
theorem Inv.held {st:aj}{b:Nat}(h:Inv w G st)(hb:0<bS b G.ls st):b<w.heap.size:=by
 have key:∀(ls:List Loc) (st:List fh),0<bS b ls st->∃(i:Nat) (l:Loc) (o:fh),ls[i]?=some l/\st[i]?=some o/\0<gu b l o:=by
  intro ls
  induction ls with
  |nil=>intro st h;simp[bS]at h
  |cons l ls ih=>
   intro st h
   cases st with
   |nil=>simp[bS]at h
   |cons o st=>
    simp only[bS]at h
    by_cases hc:0<gu b l o
    ·exact⟨0,l,o,rfl,rfl,hc⟩
    ·obtain⟨i,l',o',e1,e2,e3⟩:=ih st (by omega)
     exact⟨i+1,l',o',by simpa using e1,by simpa using e2,e3⟩
 obtain⟨i,l,o,e1,e2,e3⟩:=key G.ls st hb
 exact(h.obj i o l e2 e1).held e3
theorem jg.held {bx:aS}{b:Nat}(h:jg w G β bx)(hb:0<fj b β bx):b<w.heap.size:=by
 have key:∀(β:List kO) (bx:aS),0<fj b β bx->∃(i:Nat) (g:kO) (r:List AV),β[i]?=some g/\bx[i]?=some r/\0<(if g.iQ=some b then 1 else 0)+bM b r g.vals:=by
  intro β
  induction β with
  |nil=>intro st h;simp[fj]at h
  |cons l ls ih=>
   intro st h
   cases st with
   |nil=>simp[fj]at h
   |cons o st=>
    simp only[fj]at h
    by_cases hc:0<(if l.iQ=some b then 1 else 0)+bM b o l.vals
    ·exact⟨0,l,o,rfl,rfl,hc⟩
    ·obtain⟨i,l',o',e1,e2,e3⟩:=ih st (by omega)
     exact⟨i+1,l',o',by simpa using e1,by simpa using e2,e3⟩
 obtain⟨i,g,r,e1,e2,e3⟩:=key β bx hb
 have hB:=h.box i r g e2 e1
 by_cases hc:0<bM b r g.vals
 ·exact hB.rep.held hc
 ·split at e3
  ·rename_i eF
   rcases hB.nB with⟨h0,_⟩|⟨b',c,e',g1,g2,_⟩
   ·rw[h0]at eF;cases eF
   ·rw[g1]at eF;cases eF;exact(Array.getElem?_eq_some_iff.1 g2).1
  ·omega
end Ax
namespace Ax
open Go
variable {P:Program}{w w':World}{G G':aK}{β fI:List kO}{ρ:Operand->Value}{o:Oper}
structure iz (w:World)(G:aK)(β:List kO)(st:aj)(bx:aS)(cO:Nat->Nat)(w':World)(G':aK)(fI:List kO)(bK:aj)(eI:aS)(e:dK)(v:Value):Prop where
 iu:pF w G w' G'
 inv:Inv w' G' bK
 box:jg w' G' fI eI
 rep:jv w' G' fI e v
 eH:∀b,cg b e v+fj b fI eI+bS b G'.ls bK<=cO b+fj b β bx+bS b G.ls st+(if w.heap.size<=b then 1 else 0)
 sB:∀b,cO b+fj b β bx+bS b G.ls st=0->b<w.heap.size->dw w G w' G' b
 size:w.heap.size<=w'.heap.size
 os:w'.os=w.os
 out:w'.output=w.output
theorem iz.quiet {st:aj}{bx:aS}{cO:Nat->Nat}{e:dK}{v:Value}(hI:Inv w G st)(hB:jg w G β bx)(hr:jv w G β e v)(hc:∀b,cg b e v<=cO b):iz w G β st bx cO w G β st bx e v where
 iu:=pF.refl w G
 inv:=hI
 box:=hB
 rep:=hr
 eH:=λb=>by have:=hc b;omega
 sB:=λ_ _ _=>⟨rfl,rfl⟩
 size:=Nat.le_refl _
 os:=rfl
 out:=rfl
def aK.new (G:aK)(n:Nat)(x:Option Nat)(l:List Loc):aK:=⟨G.ls++l,λb=>if b=n then x else G.kg b⟩
theorem Ly {ob:Obj}(hw:w'.heap=w.heap.push ob){b o:Nat}(hb:b<w.heap.size):w'.cell? ⟨b,o,none⟩=w.cell? ⟨b,o,none⟩:=by
 refine nT ?_
 rw[hw,Array.getElem?_push,if_neg (by omega)]
theorem pH {ob:Obj}(hw:w'.heap=w.heap.push ob)(x:Option Nat)(l:List Loc):pF w G w' (G.new w.heap.size x l) where
 No:=λb o hi=>by
  refine⟨Ly hw hi.1,by rw[hw];simp;have:=hi.1;omega,λp hp=>?_⟩
  have:¬b=w.heap.size:=by have:=hi.1;omega
  simp only[aK.new,if_neg this]at hp
  exact hi.2 p hp
 ids:=λid loc hl=>by
  refine⟨loc,?_,Nat.le_refl _,λ_=>rfl⟩
  simp only[aK.new]
  rw[List.getElem?_append_left (List.getElem?_eq_some_iff.1 hl).1]
  exact hl
theorem fP {ob:Obj}(hw:w'.heap=w.heap.push ob)(x:Option Nat)(l:List Loc){b:Nat}(hb:b<w.heap.size):dw w G w' (G.new w.heap.size x l) b:=by
 refine⟨by simp only[aK.new];rw[if_neg (by omega)],?_⟩
 rw[hw,Array.getElem?_push,if_neg (by omega)]
theorem aL.push {ob:Obj}(hw:w'.heap=w.heap.push ob)(x:Option Nat)(l:List Loc){a:AV}{v:Value}(h:aL w G a v):aL w' (G.new w.heap.size x l) a v:=
 h.iu (pH hw x l) λ_ hb=>fP hw x l (h.held hb)
theorem bV.push {ob:Obj}(hw:w'.heap=w.heap.push ob)(x:Option Nat)(l:List Loc){as:List AV}{xs:List Value}(h:bV w G as xs):bV w' (G.new w.heap.size x l) as xs:=
 ⟨h.1,λi c v e1 e2=>(h.2 i c v e1 e2).push hw x l⟩
theorem J4 {ob:Obj}(hw:w'.heap=w.heap.push ob)(x:Option Nat){st:aj}(hI:Inv w G st):Inv w' (G.new w.heap.size x []) st where
 len:=by simp[aK.new,hI.len]
 obj:=λid Fx loc h1 h2=>by
  simp only[aK.new,List.append_nil]at h2
  have h:=hI.obj id Fx loc h1 h2
  exact h.iu (pH hw x []) λb hb=>fP hw x [] (h.held hb)
 kP:=λb p hp=>by
  simp only[aK.new]at hp
  rw[hw]
  simp only[Array.size_push]
  split at hp
  ·omega
  ·have:=hI.kP b p hp;omega
theorem FR {ob:Obj}(hw:w'.heap=w.heap.push ob)(x:Option Nat){st:aj}(hI:Inv w G st){loc:Loc}{ao:fh}(h:nC w' (G.new w.heap.size x [loc]) ao loc):Inv w' (G.new w.heap.size x [loc]) (st++[ao]) where
 len:=by simp[aK.new,hI.len]
 obj:=λid Fx l h1 h2=>by
  simp only[aK.new]at h2
  by_cases Il:id<st.length
  ·rw[List.getElem?_append_left Il]at h1
   rw[List.getElem?_append_left (by rw[hI.len];exact Il)]at h2
   have h:=hI.obj id Fx l h1 h2
   exact h.iu (pH hw x [loc]) λb hb=>fP hw x [loc] (h.held hb)
  ·rw[List.getElem?_append_right (by omega)]at h1
   rw[List.getElem?_append_right (by rw[hI.len];omega)]at h2
   rw[hI.len]at h2
   have h0:id-st.length=0:=by
    have:=(List.getElem?_eq_some_iff.1 h1).1;simp at this;omega
   rw[h0]at h1 h2
   simp at h1 h2
   subst h1;subst h2
   exact h
 kP:=λb p hp=>by
  simp only[aK.new]at hp
  rw[hw]
  simp only[Array.size_push]
  split at hp
  ·omega
  ·have:=hI.kP b p hp;omega
theorem AA {ob:Obj}(hw:w'.heap=w.heap.push ob)(x:Option Nat)(l:List Loc){bx:aS}(hB:jg w G β bx):jg w' (G.new w.heap.size x l) β bx where
 len:=hB.len
 box:=λj row g h1 h2=>by
  have h:=hB.box j row g h1 h2
  refine h.iu (pH hw x l) λb hb=>fP hw x l (hB.held (b:=b) ?_)
  have:=lD b β bx j g row h2 h1
  omega
theorem zJ {ob:Obj}(hw:w'.heap=w.heap.push ob)(Im:w'.os=w.os)(uz:w'.output=w.output)(x:Option Nat){st:aj}{bx:aS}(hI:Inv w G st)(hB:jg w G β bx){cO:Nat->Nat}{a:AV}{v:Value}
  (hr:aL w' (G.new w.heap.size x []) a v) (hc:∀b,eH b a v<=if b=w.heap.size then 1 else 0):iz w G β st bx cO w' (G.new w.heap.size x []) β st bx (.val a) v where
 iu:=pH hw x []
 inv:=J4 hw x hI
 box:=AA hw x [] hB
 rep:=hr
 eH:=λb=>by
  have:=hc b
  simp only[cg,aK.new,List.append_nil]
  split at this
  ·rename_i e;subst e;simp;omega
  ·omega
 sB:=λb _ hb=>fP hw x [] hb
 size:=by rw[hw];simp
 os:=Im
 out:=uz
theorem pI {ob:Obj}(hw:w'.heap=w.heap.push ob)(Im:w'.os=w.os)(uz:w'.output=w.output){st:aj}{bx:aS}(hI:Inv w G st)(hB:jg w G β bx){cO:Nat->Nat}{a:AV}{v:Value}{loc:Loc}{ao:fh}
  (h:nC w' (G.new w.heap.size (some 0) [loc]) ao loc) (hr:aL w' (G.new w.heap.size (some 0) [loc]) a v) (hn:a.bR=true) (hc:∀b,gu b loc ao<=(if b=w.heap.size then 1 else 0)+cO b) :
  iz w G β st bx cO w' (G.new w.heap.size (some 0) [loc]) β (st++[ao]) bx (.val a) v where
 iu:=pH hw _ _
 inv:=FR hw _ hI h
 box:=AA hw _ _ hB
 rep:=hr
 eH:=λb=>by
  have h1:=hc b
  simp only[cg,aK.new,dN b a v hn]
  rw[pG b _ _ _ _ hI.len]
  simp only[bS]
  split at h1
  ·rename_i e;subst e;simp;omega
  ·omega
 sB:=λb _ hb=>fP hw _ _ hb
 size:=by rw[hw];simp
 os:=Im
 out:=uz
theorem pJ {sz:Nat}{α:Type}:∀(rows:List (List α))(i j:Nat) r c,(∀r∈rows,r.length=sz)->rows[i]?=some r->r[j]?=some c->rows.flatten[i*sz+j]?=some c
 |[],_,_,_,_,_,h,_=>by simp at h
 |r0::rows,0,j,r,c,hf,h1,h2=>by
  simp at h1;subst h1
  simp only[List.flatten_cons,Nat.zero_mul,Nat.zero_add]
  rw[List.getElem?_append_left (List.getElem?_eq_some_iff.1 h2).1]
  exact h2
 |r0::rows,i+1,j,r,c,hf,h1,h2=>by
  have ih:=pJ rows i j r c (λr hr=>hf r (by simp[hr])) (by simpa using h1) h2
  have h0:r0.length=sz:=hf r0 (by simp)
  simp only[List.flatten_cons]
  rw[List.getElem?_append_right (by rw[h0,Nat.succ_mul];omega),h0]
  rw[show (i+1)*sz+j-sz=i*sz+j by rw[Nat.succ_mul];omega]
  exact ih
theorem bZ {sz:Nat}{rows:List (List AV)}:fits sz rows=true↔∀r∈rows,r.length=sz:=by
 simp[fits]
theorem eA {sz:Nat}{α:Type}:∀(rows:List (List α)),(∀r∈rows,r.length=sz)->rows.flatten.length=rows.length*sz
 |[],_=>by simp
 |r::rows,h=>by
  simp only[List.flatten_cons,List.length_append,List.length_cons]
  rw[eA rows λr hr=>h r (by simp[hr]),h r (by simp),Nat.succ_mul]
  omega
def oE {α:Type}(sz:Nat):Nat->List α->List (List α)
 |0,_=>[]
 |n+1,xs=>xs.take sz::oE sz n (xs.drop sz)
theorem yN {α:Type}(sz:Nat):∀(n:Nat)(xs:List α),(oE sz n xs).length=n
 |0,_=>rfl
 |n+1,xs=>by simp[oE,yN sz n]
theorem AB {α:Type}(sz:Nat):∀(n:Nat)(xs:List α)(i:Nat) ys,(oE sz n xs)[i]?=some ys->ys=(xs.drop (i*sz)).take sz
 |0,_,_,_,h=>by simp[oE]at h
 |n+1,xs,0,ys,h=>by simp[oE]at h;simp[h]
 |n+1,xs,i+1,ys,h=>by
  simp only[oE,List.getElem?_cons_succ]at h
  rw[AB sz n _ i ys h,List.drop_drop]
  congr 2
  rw[Nat.succ_mul];omega
theorem CW {sz:Nat}:∀(rows:List (List AV))(i:Nat) r,(∀r∈rows,r.length=sz)->rows[i]?=some r->(rows.flatten.drop (i*sz)).take sz=r
 |[],_,_,_,h=>by simp at h
 |r0::rows,0,r,hf,h=>by
  simp at h;subst h
  have h0:r0.length=sz:=hf r0 (by simp)
  simp[<-h0]
 |r0::rows,i+1,r,hf,h=>by
  have ih:=CW rows i r (λr hr=>hf r (by simp[hr])) (by simpa using h)
  have h0:r0.length=sz:=hf r0 (by simp)
  simp only[List.flatten_cons]
  rw[show (i+1)*sz=r0.length+i*sz by rw[h0,Nat.succ_mul];omega,<-List.drop_drop,List.drop_left]
  exact ih
theorem oF {sz:Nat}(b:Nat):∀(rows:List (List AV))(xs:List Value),(∀r∈rows,r.length=sz)->rows.flatten.length=xs.length->eM b rows (oE sz rows.length xs)=bM b rows.flatten xs
 |[],xs,_,_=>by simp[eM,Au]
 |r::rows,xs,hf,hl=>by
  have h0:r.length=sz:=hf r (by simp)
  simp only[List.length_cons,oE,eM,List.flatten_cons]
  rw[List.flatten_cons,List.length_append]at hl
  rw[oF b rows (xs.drop sz) (λr hr=>hf r (by simp[hr])) (by rw[List.length_drop];omega)]
  have:=eL b r rows.flatten (xs.take sz) (xs.drop sz) (by rw[List.length_take];omega)
  rw[List.take_append_drop]at this
  omega
theorem lE {sz:Nat}{rows:List (List AV)}{loc:Loc}{b off:Nat}{c:Array Value}{e:TypeId}{xs:List Value}(hf:fits sz rows=true)(gK:∀r∈rows,AV.aH r=true)(dc:bV w G rows.flatten xs)
  (h1:loc.len=rows.length) (h2:loc.sz=sz) (h3:loc.vals=oE sz rows.length xs) (h4:loc.a=some ⟨b,off,none⟩) (h5:0<loc.cap) (h6:w.heap[b]?=some (.cells c e (0,0))) (h7:off+loc.cap*sz<=c.size)
  (h8:rows.length<=loc.cap) (h9:G.kg b=some 0) (Cz:∀(k:Nat) x,xs[k]?=some x->w.cell? ⟨b,off+k,none⟩=some x):sx w G sz rows loc where
 fit:=hf
 zG:=gK
 len:=h1
 size:=h2
 p6:=by rw[h3,yN]
 qo:=λi r ys e1 e2=>by
  rw[h3]at e2
  rw[AB _ _ _ _ _ e2,<-CW rows i r (bZ.1 hf) e1]
  exact(dc.drop _).take _
 nB:=by
  refine .inr ⟨b,off,c,e,h4,h5,h6,h7,h8,h9,λi ys j x e1 e2=>?_⟩
  rw[h3]at e1
  rw[AB _ _ _ _ _ e1,List.getElem?_take]at e2
  split at e2
  ·rw[List.getElem?_drop]at e2;exact Cz _ x e2
  ·cases e2
end Ax
namespace Ax
open Go
variable {P:Program}{w w':World}{G G':aK}{β fI:List kO}{ρ:Operand->Value}{o:Oper}
theorem AD {c:Array Value}{e:TypeId}(hw:w'.heap=w.heap.push (.cells c e)){k:Nat}{x:Value}(h:c[k]?=some x):w'.cell? ⟨w.heap.size,k,none⟩=some x:=by
 simp[World.cell?,hw,h]
theorem oG {ob:Obj}(hw:w'.heap=w.heap.push ob):w'.heap[w.heap.size]?=some ob:=by simp[hw]
theorem Nz {sz cap:Nat}{rows:List (List AV)}{c:Array Value}{e:TypeId}{xs:List Value}{l:List Loc}(hw:w'.heap=w.heap.push (.cells c e))(hf:fits sz rows=true)(gK:∀r∈rows,AV.aH r=true)
  (dc:bV w G rows.flatten xs) (h5:0<cap) (h7:cap*sz<=c.size) (h8:rows.length<=cap) (hx:∀(k:Nat) x,xs[k]?=some x->c[k]?=some x) (bP:Nat) :
  sx w' (G.new w.heap.size (some 0) l) sz rows ⟨some ⟨w.heap.size,0,none⟩,cap,rows.length,sz,bP,false,oE sz rows.length xs⟩:=
 lE hf gK (dc.push hw _ _) rfl rfl rfl rfl h5 (oG hw) (by simpa using h7) h8 (by simp[aK.new]) λk x hk=>by
  rw[Nat.zero_add];exact AD hw (hx k x hk)
theorem sC {sz cap:Nat}{rows:List (List AV)}{c:Array Value}{e:TypeId}{xs:List Value}{st:aj}{bx:aS}(hI:Inv w G st)(hB:jg w G β bx){cO:Nat->Nat}(hw:w'.heap=w.heap.push (.cells c e))(Im:w'.os=w.os)(uz:w'.output=w.output)
  (hf:fits sz rows=true) (gK:∀r∈rows,AV.aH r=true) (dc:bV w G rows.flatten xs) (h5:0<cap) (h7:cap*sz<=c.size) (h8:rows.length<=cap)
  (hx:∀(k:Nat) x,xs[k]?=some x->c[k]?=some x) (hc:∀b,bM b rows.flatten xs<=cO b) :
  ∃G',iz w G β st bx cO w' G' β (st++[.rows 0 sz rows]) bx (.val (.mu st.length 0)) (.slice (some ⟨w.heap.size,0,none⟩) rows.length cap)/\
   iz w G β st bx cO w' G' β (st++[.rows 0 sz rows]) bx (.val (.ptr st.length 0 0 0)) (.pointer (some ⟨w.heap.size,0,none⟩)):=by
 have hR:=Nz (l:=[⟨some ⟨w.heap.size,0,none⟩,cap,rows.length,sz,0,false,oE sz rows.length xs⟩]) hw hf gK dc h5 h7 h8 hx 0
 have ID:∀b,gu b ⟨some ⟨w.heap.size,0,none⟩,cap,rows.length,sz,0,false,oE sz rows.length xs⟩ (.rows 0 sz rows)<=(if b=w.heap.size then 1 else 0)+cO b:=by
  intro b
  simp only[gu,Loc.iQ]
  rw[oF b rows xs (bZ.1 hf) dc.1,if_neg (show ¬cap=0 by omega)]
  have:=hc b
  simp only[Option.map_some,Option.some.injEq]
  by_cases hb:b=w.heap.size
  ·subst hb;simp;omega
  ·rw[if_neg (λh=>hb h.symm),if_neg hb];omega
 have hl:(G.new w.heap.size (some 0) [⟨some ⟨w.heap.size,0,none⟩,cap,rows.length,sz,0,false,oE sz rows.length xs⟩]).ls[st.length]?=some ⟨some ⟨w.heap.size,0,none⟩,cap,rows.length,sz,0,false,oE sz rows.length xs⟩:=by
  simp only[aK.new]
  rw[List.getElem?_append_right (by rw[hI.len];exact Nat.le_refl _),hI.len]
  simp
 refine⟨_,pI hw Im uz hI hB ⟨rfl,rfl,hR⟩ (.mu _ _ _ _ ⟨_,_,_,rfl⟩ hl (Nat.le_refl _) λ_=>rfl) rfl ID,
  pI hw Im uz hI hB ⟨rfl,rfl,hR⟩ (.ptr _ _ _ _ _ _ ⟨_,rfl⟩ hl (Nat.le_refl _) λ_=>⟨_,rfl,by simp⟩) rfl ID⟩
theorem D5 {sz cap:Nat}{rows:List (List AV)}{b off:Nat}{c:Array Value}{e:TypeId}{xs:List Value}(hf:fits sz rows=true)(gK:∀r∈rows,AV.aH r=true)(hY:∀r∈rows,AV.dj r=true)(mU:∀r∈rows,AV.ah r=true)
  (dc:bV w G rows.flatten xs) (h6:w.heap[b]?=some (.cells c e (0,0))) (h7:off+cap*sz<=c.size) (h8:rows.length<=cap) (h9:G.kg b=some (off+rows.length*sz))
  (hx:∀(k:Nat) x,xs[k]?=some x->c[off+k]?=some x):aL w G (.own sz rows) (.slice (some ⟨b,off,none⟩) rows.length cap):=by
 have l8:∀(k:Nat) x,xs[k]?=some x->w.cell? ⟨b,off+k,none⟩=some x:=λk x h=>by simp[World.cell?,h6,hx k x h]
 have key:∀(i:Nat) r (j:Nat) a,rows[i]?=some r->r[j]?=some a->∃v,w.cell? ⟨b,off+(i*sz+j),none⟩=some v/\aL w G a v:=by
  intro i r j a h1 h2
  have h3:=pJ rows i j r a (bZ.1 hf) h1 h2
  have aZ:i*sz+j<xs.length:=by rw[<-dc.1];exact(List.getElem?_eq_some_iff.1 h3).1
  exact⟨_,l8 _ _ (List.getElem?_eq_getElem aZ),dc.2 _ _ _ h3 (List.getElem?_eq_getElem aZ)⟩
 refine .own sz rows ⟨b,off,none⟩ cap rfl h8 hf hY mU gK (λi r j a h1 h2=>?_) (λi r j a v h1 h2 h3=>?_) h9 ⟨c,e,h6,h7⟩
 ·obtain⟨v,h,_⟩:=key i r j a h1 h2;exact⟨v,h⟩
 ·obtain⟨v',h,h'⟩:=key i r j a h1 h2
  rw[h]at h3;cases h3;exact h'
theorem D6 {sz cap:Nat}{rows:List (List AV)}{c:Array Value}{e:TypeId}{xs:List Value}{st:aj}{bx:aS}(hI:Inv w G st)(hB:jg w G β bx){cO:Nat->Nat}(hw:w'.heap=w.heap.push (.cells c e))(Im:w'.os=w.os)(uz:w'.output=w.output)
  (hf:fits sz rows=true) (gK:∀r∈rows,AV.aH r=true) (hY:∀r∈rows,AV.dj r=true) (mU:∀r∈rows,AV.ah r=true)
  (dc:bV w G rows.flatten xs) (h7:cap*sz<=c.size) (h8:rows.length<=cap)
  (hx:∀(k:Nat) x,xs[k]?=some x->c[k]?=some x) :
  ∃G',iz w G β st bx cO w' G' β st bx (.val (.own sz rows)) (.slice (some ⟨w.heap.size,0,none⟩) rows.length cap):=by
 refine⟨_,zJ hw Im uz (some (rows.length*sz)) hI hB (D5 hf gK hY mU (dc.push hw _ _) (oG hw) (by simpa using h7) h8 (by simp[aK.new]) λk x hk=>by rw[Nat.zero_add];exact hx k x hk) λb=>?_⟩
 simp only[eH]
 split
 ·rename_i h;rw[if_pos h.symm];omega
 ·omega
theorem Se {sz cap:Nat}{rows:List (List AV)}{b off:Nat}{c:Array Value}{e:TypeId}{xs:List Value}(hf:fits sz rows=true)(gK:∀r∈rows,AV.aH r=true)(hY:∀r∈rows,AV.dj r=true)(mU:∀r∈rows,AV.ah r=true)
  (dc:bV w G rows.flatten xs) (h6:w.heap[b]?=some (.cells c e (0,0))) (h7:off+cap*sz<=c.size) (h8:rows.length<=cap) (h9:G.kg b=some 0)
  (hx:∀(k:Nat) x,xs[k]?=some x->c[off+k]?=some x):aL w G (.raw sz rows) (.slice (some ⟨b,off,none⟩) rows.length cap):=by
 have l8:∀(k:Nat) x,xs[k]?=some x->w.cell? ⟨b,off+k,none⟩=some x:=λk x h=>by simp[World.cell?,h6,hx k x h]
 have key:∀(i:Nat) r (j:Nat) a,rows[i]?=some r->r[j]?=some a->∃v,w.cell? ⟨b,off+(i*sz+j),none⟩=some v/\aL w G a v:=by
  intro i r j a h1 h2
  have h3:=pJ rows i j r a (bZ.1 hf) h1 h2
  have aZ:i*sz+j<xs.length:=by rw[<-dc.1];exact(List.getElem?_eq_some_iff.1 h3).1
  exact⟨_,l8 _ _ (List.getElem?_eq_getElem aZ),dc.2 _ _ _ h3 (List.getElem?_eq_getElem aZ)⟩
 refine .raw sz rows ⟨b,off,none⟩ cap rfl h8 hf hY mU gK (λi r j a h1 h2=>?_) (λi r j a v h1 h2 h3=>?_) h9 ⟨c,e,h6,h7⟩
 ·obtain⟨v,h,_⟩:=key i r j a h1 h2;exact⟨v,h⟩
 ·obtain⟨v',h,h'⟩:=key i r j a h1 h2
  rw[h]at h3;cases h3;exact h'
theorem Sf {sz cap:Nat}{rows:List (List AV)}{c:Array Value}{e:TypeId}{xs:List Value}{st:aj}{bx:aS}(hI:Inv w G st)(hB:jg w G β bx){cO:Nat->Nat}(hw:w'.heap=w.heap.push (.cells c e))(Im:w'.os=w.os)(uz:w'.output=w.output)
  (hf:fits sz rows=true) (gK:∀r∈rows,AV.aH r=true) (hY:∀r∈rows,AV.dj r=true) (mU:∀r∈rows,AV.ah r=true)
  (dc:bV w G rows.flatten xs) (h7:cap*sz<=c.size) (h8:rows.length<=cap)
  (hx:∀(k:Nat) x,xs[k]?=some x->c[k]?=some x) :
  ∃G',iz w G β st bx cO w' G' β st bx (.val (.raw sz rows)) (.slice (some ⟨w.heap.size,0,none⟩) rows.length cap):=by
 refine⟨_,zJ hw Im uz (some 0) hI hB (Se hf gK hY mU (dc.push hw _ _) (oG hw) (by simpa using h7) h8 (by simp[aK.new]) λk x hk=>by rw[Nat.zero_add];exact hx k x hk) λb=>?_⟩
 simp only[eH]
 split
 ·rename_i h;rw[if_pos h.symm];omega
 ·omega
theorem J5 {row:List AV}{c:Array Value}{e:TypeId}{st:aj}{bx:aS}(hI:Inv w G st)(hB:jg w G β bx){cO:Nat->Nat}(hw:w'.heap=w.heap.push (.cells c e))(Im:w'.os=w.os)(uz:w'.output=w.output)
  {j:Nat} (hj:j<bx.length) (dc:bV w G row c.toList) (gK:AV.aH row=true) (hc:∀b,bM b row c.toList<=cO b) :
  iz w G β st bx cO w' (G.new w.heap.size (some 0) []) (β.set j ⟨some w.heap.size,c.toList⟩) st (bx.set j row) (.fp j 0) (.pointer (some ⟨w.heap.size,0,none⟩)) where
 iu:=pH hw _ _
 inv:=J4 hw _ hI
 box:=by
  have hB':=AA hw (some 0) [] hB
  refine⟨by simp[hB.len],λi r g h1 h2=>?_⟩
  rw[List.getElem?_set]at h1 h2
  split at h1
  ·rename_i zn;subst zn
   rw[if_pos rfl,if_pos (by rw[hB.len];exact hj)]at h2
   cases h1;cases h2
   refine⟨dc.push hw _ _,gK,.inr ⟨w.heap.size,c,e,rfl,oG hw,by rw[dc.1];simp,by simp[aK.new],λk x hk=>AD hw (by simpa using hk)⟩⟩
  ·rw[if_neg (by assumption)]at h2
   exact hB'.box i r g h1 h2
 rep:=⟨_,_,by rw[List.getElem?_set,if_pos rfl,if_pos (by rw[hB.len];exact hj)],rfl,rfl⟩
 eH:=λb=>by
  have hjb:j<β.length:=by rw[hB.len];exact hj
  have hg:β[j]?=some β[j]:=List.getElem?_eq_getElem hjb
  have hr:bx[j]?=some bx[j]:=List.getElem?_eq_getElem hj
  have h1:=vV b β bx j _ _ ⟨some w.heap.size,c.toList⟩ row hg hr
  have h2:=hc b
  simp only[cg,aK.new,List.append_nil]
  simp only[Option.some.injEq]at h1
  by_cases hb:w.heap.size=b
  ·subst hb;simp only[if_true]at h1;rw[if_pos (Nat.le_refl _)];omega
  ·rw[if_neg hb]at h1;omega
 sB:=λb _ hb=>fP hw _ _ hb
 size:=by rw[hw];simp
 os:=Im
 out:=uz
theorem J6 {t:TypeId}(ho:o.op=.alloc t){i:TypeInfo}{z:Value}(hi:P.info? t=some i)(hz:i.zero=some z) :
  (execOp ρ o).run P w=.ok (.value (.pointer (some ⟨w.heap.size,0,none⟩))) (w.alloc (.cells z.cells t)):=by
 simp[execOp,ho,Instr.alloc,zeroValue,typeInfo,hi,hz,newVar,newRow]
theorem UP {t:TypeId}{x:Operand}(ho:o.op=.box t x) :
  (execOp ρ o).run P w=.ok (.value (.pointer (some ⟨w.heap.size,0,none⟩))) (w.alloc (.cells (ρ x).cells t)):=by
 simp[execOp,ho,Instr.box,newVar,newRow]
theorem CX {zero:List AV}(h:∀c∈zero,c.bR=true/\c.an=true)(b:Nat)(xs:List Value):bM b zero xs=0:=
 cU b _ _ ((cn zero).2 λc hc=>(h c hc).1)
theorem Lz {st:aj}{bx:aS}(hI:Inv w G st)(hB:jg w G β bx){cO:Nat->Nat}{t:TypeId}{z:Value}{zero:List AV}(dc:bV w G zero z.cells.toList)(hn:∀c∈zero,c.bR=true/\c.an=true)(hc:AV.aH zero=true) :
  ∃G',iz w G β st bx cO (w.alloc (.cells z.cells t)) G' β (st++[.rows 0 zero.length [zero]]) bx (.val (.ptr st.length 0 0 0)) (.pointer (some ⟨w.heap.size,0,none⟩)):=by
 obtain⟨G',_,h⟩:=sC (sz:=zero.length) (cap:=1) (rows:=[zero]) (c:=z.cells) (e:=t) (xs:=z.cells.toList) (w':=w.alloc (.cells z.cells t)) (cO:=cO) hI hB rfl rfl rfl (by simp[fits]) (by simpa using hc) (by simpa using dc) (by omega)
  (by rw[dc.1];simp) (by simp) (by simp) (λb=>by simp only[List.flatten_cons,List.flatten_nil,List.append_nil];rw[CX hn];omega)
 exact⟨G',h⟩
theorem NA {st:aj}{bx:aS}(hI:Inv w G st)(hB:jg w G β bx){cO:Nat->Nat}{t:TypeId}{a:AV}{v:Value}{n:Nat}(hv:aL w G a v)(hn:a.cells.length=n)(hc:AV.aH a.cells=true)(hO:∀b,eH b a v<=cO b) :
  ∃G',iz w G β st bx cO (w.alloc (.cells v.cells t)) G' β (st++[.rows 0 n [a.cells]]) bx (.val (.ptr st.length 0 0 0)) (.pointer (some ⟨w.heap.size,0,none⟩)):=by
 obtain⟨hr,J1⟩:=hv.cells
 obtain⟨G',_,h⟩:=sC (sz:=n) (cap:=1) (rows:=[a.cells]) (c:=v.cells) (e:=t) (xs:=v.cells.toList) (w':=w.alloc (.cells v.cells t)) (cO:=cO) hI hB rfl rfl rfl (by simp[fits,hn]) (by simpa using hc) (by simpa using hr) (by omega)
  (by rw[<-hn,hr.1];simp) (by simp) (by simp) (λb=>by simp only[List.flatten_cons,List.flatten_nil,List.append_nil];rw[J1];exact hO b)
 exact⟨G',h⟩
theorem AE {α:Type}{sz:Nat}:∀(rows:List (List α))(i:Nat)(r:List α),(∀r∈rows,r.length=sz)->r.length=sz->i<rows.length->(rows.set i r).flatten=af rows.flatten (i*sz) r
 |[],_,_,_,_,h=>by simp at h
 |r0::rows,0,r,hf,hr,_=>by
  have h0:r0.length=sz:=hf r0 (by simp)
  have e:=iS (r0++rows.flatten) 0 r (by simp;omega)
  simp only[List.set_cons_zero,List.flatten_cons,Nat.zero_mul]
  rw[e]
  simp[hr,<-h0]
 |r0::rows,i+1,r,hf,hr,h=>by
  have h0:r0.length=sz:=hf r0 (by simp)
  have hf':∀r∈rows,r.length=sz:=λr hr=>hf r (by simp[hr])
  have ih:=AE rows i r hf' hr (by simpa using h)
  have aZ:i<rows.length:=by simpa using h
  have hle:i*sz+r.length<=rows.flatten.length:=by
   rw[eA rows hf',hr]
   calc i*sz+sz=(i+1)*sz:=by rw[Nat.succ_mul]
    _<=rows.length*sz:=Nat.mul_le_mul_right _ aZ
  have h1:(i+1)*sz=r0.length+i*sz:=by rw[h0,Nat.succ_mul];omega
  simp only[List.set_cons_succ,List.flatten_cons]
  rw[ih,h1,iS (r0++rows.flatten) _ _ (by rw[List.length_append];omega),iS _ _ _ hle,Nat.add_assoc,List.take_append,List.drop_append]
  simp[List.append_assoc,show r0.length+i*sz-r0.length=i*sz by omega,show r0.length+(i*sz+r.length)-r0.length=i*sz+r.length by omega,List.take_of_length_le,List.drop_of_length_le]
theorem uK {sz:Nat}:∀(qs:List Nat)(vs:List AV)(rows dy:List (List AV)),(∀r∈rows,r.length=sz)->fo sz rows qs vs=some dy->
  gy rows.flatten (qs.map λi=>(i*sz,sz)) vs=some dy.flatten/\(∀r∈dy,r.length=sz)/\dy.length=rows.length
 |[],[],rows,dy,hf,h=>by simp[fo]at h;subst h;exact⟨rfl,hf,rfl⟩
 |[],_::_,_,_,_,h=>by simp[fo]at h
 |_::_,[],_,_,_,h=>by simp[fo]at h
 |i::qs,v::vs,rows,dy,hf,h=>by
  simp only[fo]at h
  split at h
  ·rename_i hc
   simp only[Bool.and_eq_true,decide_eq_true_eq]at hc
   have hf':∀r∈rows.set i v.cells,r.length=sz:=by
    intro r hr
    rcases List.mem_or_eq_of_mem_set hr with h|h
    ·exact hf r h
    ·rw[h];exact hc.1
   obtain⟨e1,e2,e3⟩:=uK qs vs _ dy hf' h
   refine⟨?_,e2,by simpa using e3⟩
   have hle:i*sz+sz<=rows.flatten.length:=by
    rw[eA rows hf]
    calc i*sz+sz=(i+1)*sz:=by rw[Nat.succ_mul]
     _<=rows.length*sz:=Nat.mul_le_mul_right _ hc.2
   simp only[List.map_cons,gy]
   rw[if_pos (by simp only[hc.1,decide_true,Bool.true_and,decide_eq_true_eq];exact hle),<-AE rows i v.cells hf hc.1 hc.2]
   exact e1
  ·cases h
theorem vo (sz n:Nat)(zero:List AV)(hz:zero.length=sz)(dL:0<sz)(k:Nat)(hk:k<n*sz):(List.replicate n zero).flatten[k]?=zero[k % sz]?:=by
 have hi:k / sz<n:=Nat.div_lt_of_lt_mul (by rw[Nat.mul_comm];exact hk)
 have hj:k % sz<zero.length:=by rw[hz];exact Nat.mod_lt _ dL
 have h:=pJ (sz:=sz) (List.replicate n zero) (k / sz) (k % sz) zero zero[k % sz] (λr hr=>by rw[List.eq_of_mem_replicate hr,hz]) (by rw[List.getElem?_replicate,if_pos hi]) (List.getElem?_eq_getElem hj)
 rw[Nat.mul_comm,Nat.div_add_mod]at h
 rw[h,List.getElem?_eq_getElem hj]
theorem xI {sz n:Nat}{zero:List AV}{z:Array Value}(dc:bV w G zero z.toList)(hz:zero.length=sz)(dL:0<sz) :
  bV w G (List.replicate n zero).flatten (((Array.range (n*sz)).map (z[· % z.size]!)).toList):=by
 have hs:z.size=sz:=by rw[<-hz,dc.1];simp
 refine⟨by rw[eA (sz:=sz) _ (λr hr=>by rw[List.eq_of_mem_replicate hr,hz])];simp,λk c v h1 h2=>?_⟩
 have hk:k<n*sz:=by
  have:=(List.getElem?_eq_some_iff.1 h2).1;simpa using this
 rw[vo sz n zero hz dL k hk]at h1
 have hm:k % sz<z.size:=by rw[hs];exact Nat.mod_lt _ dL
 simp only[Array.toList_map,Array.toList_range,List.getElem?_map,List.getElem?_range hk,Option.map_some,Option.some.injEq,hs]at h2
 refine dc.2 _ c v h1 ?_
 rw[<-h2,getElem!_pos z (k % sz) hm]
 simp[hm]
theorem UQ {t e:TypeId}{n sz:Nat}{parts:Array (Nat×Operand)}(ho:o.op=.buildSlice t n parts)(hu:P.underlying t=some (.slice e))(dL:ck P e sz=true)(IE:n*sz<=16777216){zero:List AV}(hz:me P e zero=true)
  (Sh:0<sz) (J7:zero.length=sz) {qs:List Nat} (hq:parts.toList.map (·.1)=qs) {vs:List AV} {rows:List (List AV)} (qq:fo sz (List.replicate n zero) qs vs=some rows) (hn:0<n) (hv:bV w G vs (parts.toList.map λp=>ρ p.2)) :
  ∃cells,(execOp ρ o).run P w=.ok (.value (.slice (some ⟨w.heap.size,0,none⟩) rows.length n)) (w.alloc (.cells cells e))/\bV w G rows.flatten cells.toList/\(∀b,bM b rows.flatten cells.toList<=bM b vs (parts.toList.map λp=>ρ p.2))/\
   fits sz rows=true/\rows.length=n/\n*sz=cells.size:=by
 obtain⟨i,z,hi,Nx,lX,FJ,_⟩:=j3 hz w G
 obtain⟨i',n8,Ct,_⟩:=jM dL
 rw[hi]at n8;cases n8
 obtain⟨e1,e2,e3⟩:=uK qs vs _ rows (λr hr=>by rw[List.eq_of_mem_replicate hr,J7]) qq
 have D2:(parts.map λ(x:Nat×Operand)=>(x.1,ρ x.2)).toList.map (·.2)=parts.toList.map λp=>ρ p.2:=by simp[Function.comp_def]
 obtain⟨cells,f1,f2,f3⟩:=D1 (place:=λi=>some (i*sz,sz)) (parts.map λ(x:Nat×Operand)=>(x.1,ρ x.2)).toList _ vs _ _ _ e1 (xI lX J7 Sh) (by rw[D2];exact hv) (by
  intro k p q h1 h2
  subst hq
  simp only[Array.toList_map,List.getElem?_map,Option.map_eq_some_iff,List.map_map]at h1 h2
  obtain⟨p',h1,rfl⟩:=h1
  obtain⟨p'',h2,rfl⟩:=h2
  rw[h1]at h2;cases h2
  rfl)
 have qO:rows.length=n:=by rw[e3];simp
 have hnz:¬n*i.size=0:=by rw[Ct];have:=Nat.mul_pos hn Sh;omega
 have:=run_buildSlice w t e n (parts.map λ(x:Nat×Operand)=>(x.1,ρ x.2)) cells i z hu hi Nx (by rw[Ct];omega) hnz (by rw[Ct];exact f1)
 refine⟨cells,?_,f2,λb=>?_,bZ.2 e2,qO,?_⟩
 ·simp only[execOp,ho,Sem.run_bind,this,Result.andThen_ok,Sem.run_pure,qO]
 ·have h1:=f3 b
  rw[D2]at h1
  have h2:bM b (List.replicate n zero).flatten ((Array.range (n*sz)).map (z.cells[· % z.cells.size]!)).toList=0:=by
   refine cU b _ _ ((cn _).2 λc hc=>?_)
   obtain⟨r,hr,hc⟩:=List.mem_flatten.1 hc
   rw[List.eq_of_mem_replicate hr]at hc
   exact(FJ c hc).1
  omega
 ·have:=f2.1
  rw[eA rows e2,qO]at this
  simpa using this
theorem FU {t e:TypeId}{x y:Operand}(ho:o.op=.makeSlice t x y)(hu:P.underlying t=some (.slice e)){sz bytes:Nat}(dL:ck P e sz=true)(Si:mK P e bytes=true){zero:List AV}(hz:me P e zero=true)(Sh:0<sz)(J7:zero.length=sz)
  {n c:Int} (hx:ρ x=.int .i64 n) (hy:ρ y=.int .i64 c) (h0:0<=n) (h1:n<=c) (h2:c*bytes<=room) (h3:c<=9223372036854775807) :
  ∃cells,(execOp ρ o).run P w=.ok (.value (.slice (some ⟨w.heap.size,0,none⟩) n.toNat c.toNat)) (w.alloc (.cells cells e))/\cells.size=c.toNat*sz/\
   bV w G (List.replicate n.toNat zero).flatten (cells.toList.take (n.toNat*sz))/\∀b xs,bM b (List.replicate n.toNat zero).flatten xs=0:=by
 obtain⟨i,z,hi,Nx,lX,FJ,_⟩:=j3 hz w G
 obtain⟨i',n8,Ct,_⟩:=jM dL
 rw[hi]at n8;cases n8
 have hb:i.bytes=bytes:=by simpa [mK,hi] using Si
 have:=run_make (P:=P) w t e i z hu hi Nx .i64 .i64 n c h0 h1 (by rw[hb,Int.mul_comm];simp only[room]at h2;omega) h3
 refine⟨madeCells z.cells (c.toNat*i.size),by simp only[execOp,ho,hx,hy,Sem.run_bind,this,Result.andThen_ok,Sem.run_pure],by rw[size_madeCells,Ct],?_,λb xs=>?_⟩
 ·have hle:n.toNat*sz<=c.toNat*sz:=Nat.mul_le_mul_right _ (by omega)
  have h:=xI (w:=w) (G:=G) (n:=c.toNat) lX J7 Sh
  have h':=h.take (n.toNat*sz)
  rw[Ct]
  unfold madeCells
  have e:(List.replicate c.toNat zero).flatten.take (n.toNat*sz)=(List.replicate n.toNat zero).flatten:=by
   have:c.toNat=n.toNat+(c.toNat-n.toNat):=by omega
   rw[this,<-List.replicate_append_replicate,List.flatten_append,List.take_left']
   exact eA (sz:=sz) _ (λr hr=>by rw[List.eq_of_mem_replicate hr,J7]) |>.trans (by simp)
  rw[e]at h'
  exact h'
 ·refine cU b _ _ ((cn _).2 λc hc=>?_)
  obtain⟨r,hr,hc⟩:=List.mem_flatten.1 hc
  rw[List.eq_of_mem_replicate hr]at hc
  exact(FJ c hc).1
theorem Sj {st:aj}{bx:aS}(hI:Inv w G st)(hB:jg w G β bx){cO:Nat->Nat}:∃G',iz w G β st bx cO (w.alloc (.map #[] 0)) G' β (st++[.map []]) bx (.val (.map st.length)) (.map (some w.heap.size)):=by
 have hl:(G.new w.heap.size (some 0) [⟨some ⟨w.heap.size,0,none⟩,1,0,0,0,true,[]⟩]).ls[st.length]?=some ⟨some ⟨w.heap.size,0,none⟩,1,0,0,0,true,[]⟩:=by
  simp only[aK.new]
  rw[List.getElem?_append_right (by rw[hI.len];exact Nat.le_refl _),hI.len]
  simp
 refine⟨_,pI (loc:=⟨some ⟨w.heap.size,0,none⟩,1,0,0,0,true,[]⟩) (ao:=.map []) (w':=w.alloc (.map #[] 0)) (ob:=.map #[] 0) rfl rfl rfl hI hB ⟨rfl,rfl,w.heap.size,#[],0,rfl,oG rfl,by simp[aK.new],rfl,λi k v e h=>by simp at h⟩ (.map _ _ _ hl rfl rfl) rfl λb=>?_⟩
 simp only[gu,Loc.iQ]
 by_cases hb:b=w.heap.size
 ·subst hb;simp
 ·simp[hb];rw[if_neg λh=>hb h.symm];omega
end Ax
namespace Ax
open Go
variable {P:Program}{w w':World}{G G':aK}{β fI:List kO}{ρ:Operand->Value}{o:Oper}
theorem mW {α:Type}{sz:Nat}:∀(rows:List (List α))(k:Nat)(c:α),(∀r∈rows,r.length=sz)->rows.flatten[k]?=some c->∃i j r,k=i*sz+j/\rows[i]?=some r/\r[j]?=some c
 |[],k,c,_,h=>by simp at h
 |r0::rows,k,c,hf,h=>by
  have h0:r0.length=sz:=hf r0 (by simp)
  simp only[List.flatten_cons]at h
  by_cases hk:k<r0.length
  ·rw[List.getElem?_append_left hk]at h
   exact⟨0,k,r0,by simp,rfl,h⟩
  ·rw[List.getElem?_append_right (by omega)]at h
   obtain⟨i,j,r,e1,e2,e3⟩:=mW rows _ c (λr hr=>hf r (by simp[hr])) h
   exact⟨i+1,j,r,by rw[Nat.succ_mul];omega,by simpa using e2,e3⟩
theorem qP:∀(rows:List (List AV))(vals:List (List Value)),rows.length=vals.length->(∀(i:Nat) r xs,rows[i]?=some r->vals[i]?=some xs->bV w G r xs)->bV w G rows.flatten vals.flatten
 |[],[],_,_=>⟨rfl,λi c v h=>by simp at h⟩
 |[],_::_,h,_=>by simp at h
 |_::_,[],h,_=>by simp at h
 |r::rows,x::vals,hl,h=>by
  obtain⟨a1,a2⟩:=h 0 r x rfl rfl
  obtain⟨b1,b2⟩:=qP rows vals (by simpa using hl) λi r xs h1 h2=>h (i+1) r xs (by simpa using h1) (by simpa using h2)
  refine⟨by simp only[List.flatten_cons,List.length_append,a1,b1],λi c v h1 h2=>?_⟩
  simp only[List.flatten_cons]at h1 h2
  by_cases hi:i<r.length
  ·rw[List.getElem?_append_left hi]at h1
   rw[List.getElem?_append_left (by omega)]at h2
   exact a2 i c v h1 h2
  ·rw[List.getElem?_append_right (by omega)]at h1
   rw[List.getElem?_append_right (by omega),<-a1]at h2
   exact b2 _ c v h1 h2
theorem vY (b:Nat):∀(rows:List (List AV))(vals:List (List Value)),rows.length=vals.length->(∀(i:Nat) r xs,rows[i]?=some r->vals[i]?=some xs->r.length=xs.length)->bM b rows.flatten vals.flatten=eM b rows vals
 |[],[],_,_=>rfl
 |[],_::_,h,_=>by simp at h
 |_::_,[],h,_=>by simp at h
 |r::rows,x::vals,hl,h=>by
  simp only[List.flatten_cons,eM]
  rw[eL b r _ x _ (h 0 r x rfl rfl),vY b rows vals (by simpa using hl) λi r xs h1 h2=>h (i+1) r xs (by simpa using h1) (by simpa using h2)]
theorem bV.append {as bs:List AV}{xs ys:List Value}(h:bV w G as xs)(k:bV w G bs ys):bV w G (as++bs) (xs++ys):=by
 refine⟨by simp[h.1,k.1],λi c v h1 h2=>?_⟩
 by_cases hi:i<as.length
 ·rw[List.getElem?_append_left hi]at h1
  rw[List.getElem?_append_left (by rw[<-h.1];exact hi)]at h2
  exact h.2 i c v h1 h2
 ·rw[List.getElem?_append_right (by omega)]at h1
  rw[List.getElem?_append_right (by rw[<-h.1];omega),<-h.1]at h2
  exact k.2 _ c v h1 h2
theorem FX {sz:Nat}{rows:List (List AV)}{a:Addr}{n cap:Nat}(h:aL w G (.cN sz rows) (.slice (some a) n cap)) :
  n=rows.length/\a.spot=none/\fits sz rows=true/\(∀r∈rows,AV.dj r=true)/\(∀r∈rows,AV.ah r=true)/\(∀r∈rows,AV.aH r=true)/\
  ∃xs:List Value,bV w G rows.flatten xs/\∀(k:Nat) x,xs[k]?=some x->w.cell? ⟨a.block,a.off+k,none⟩=some x:=by
 cases h with
 |cN _ _ _ _ nS eJ bY hY mU tH hc hr=>
 refine⟨rfl,nS,bY,hY,mU,tH,(List.range rows.flatten.length).map λk=>(w.cell? ⟨a.block,a.off+k,none⟩).getD undef,⟨by simp,λk c v h1 h2=>?_⟩,λk x h=>?_⟩
 ·obtain⟨i,j,r,rfl,e2,e3⟩:=mW rows k c (bZ.1 bY) h1
  obtain⟨_,y,hy⟩:=hc i r j c e2 e3
  have hk:=(List.getElem?_eq_some_iff.1 h1).1
  rw[List.getElem?_map,List.getElem?_range hk,Option.map_some,hy]at h2
  cases h2
  exact hr i r j c y e2 e3 hy
 ·have hk:k<rows.flatten.length:=by have:=(List.getElem?_eq_some_iff.1 h).1;simpa using this
  rw[List.getElem?_map,List.getElem?_range hk,Option.map_some]at h
  obtain⟨i,j,r,rfl,e2,e3⟩:=mW rows k _ (bZ.1 bY) (List.getElem?_eq_getElem hk)
  obtain⟨_,y,hy⟩:=hc i r j _ e2 e3
  rw[hy]at h ⊢
  simpa using h
theorem yO (a:AV):a.view.cv=a.cv:=by cases a<;>simp[AV.view,AV.cv]
theorem oH:∀(cs:List AV),AV.aH (AV.cy cs)=AV.aH cs
 |[]=>rfl
 |c::cs=>by
  have:=oH cs
  simp only[AV.aH]at this
  simp only[AV.cy,AV.aH,List.all_cons,yO,this]
theorem uL:∀(rows:List (List AV)),(rows.map AV.cy).flatten=AV.cy rows.flatten
 |[]=>rfl
 |r::rows=>by
  have ae5:∀a b:List AV,AV.cy (a++b)=AV.cy a++AV.cy b:=by
   intro a b
   induction a with
   |nil=>rfl
   |cons x a ih=>simp only[List.cons_append,AV.cy,ih]
  simp only[List.map_cons,List.flatten_cons,ae5,uL rows]
theorem CY (l:List UInt8):(dM l).flatten=l.map λb=>AV.int .u8 b.toNat:=by
 unfold dM
 induction l with
 |nil=>rfl
 |cons b l ih=>simp only[List.map_cons,List.flatten_cons,ih];rfl
theorem tP {st:aj}(hI:Inv w G st){a:AV}{v:Value}{rows:List (List AV)}(h:aL w G a v)(hb:di st a=some rows){sz:Nat}(hf:fits sz rows=true){tx:TypeId}
  (hk:(∃e',P.underlying tx=some (.slice e'))\/P.underlying tx=some .string) :
  ∃xs,bV w G rows.flatten xs/\Go.Src P sz tx v rows.length xs w/\(∀r∈rows,AV.aH r=true)/\(∀r∈rows,AV.dj r=true)/\((∀id bP,a≠.mu id bP)->∀r∈rows,AV.ah r=true):=by
 have slice:∀(ad:Addr) (c:Nat) (xs:List Value),ad.spot=none->bV w G rows.flatten xs->(∀(k:Nat) x,xs[k]?=some x->w.cell? ⟨ad.block,ad.off+k,none⟩=some x)->(∀r∈rows,AV.aH r=true)->
   Go.Src P sz tx (.slice (some ad) rows.length c) rows.length xs w:=by
  intro ad c xs nS dc hx gK
  have hl:xs.length=rows.length*sz:=by rw[<-dc.1];exact eA rows (bZ.1 hf)
  obtain⟨bl,of,sp⟩:=ad
  simp only at nS hx
  subst nS
  have UN:∀j u,xs[j]?=some u->w.cell? ((⟨bl,of,none⟩:Addr).add j)=some u:=λj u h=>by rw[jO];exact hx j u h
  have NB:∀u∈xs,u.oneCell'=true:=dc.R5 (by
   simp only[AV.aH,List.all_eq_true]
   intro c hc
   obtain⟨r,hr,hc⟩:=List.mem_flatten.1 hc
   have:=gK r hr
   simp only[AV.aH,List.all_eq_true]at this
   exact this c hc)
  exact⟨hk,λ_=>rfl,run_firstCells_some w sz rows.length ⟨bl,of,none⟩ rows.length c xs hl UN,run_firstCells_some w.drew sz rows.length ⟨bl,of,none⟩ rows.length c xs hl (by simpa using UN),hl,NB⟩
 have cN:∀s,aL w G (.cN s rows) v->∃xs,bV w G rows.flatten xs/\Go.Src P sz tx v rows.length xs w/\(∀r∈rows,AV.aH r=true)/\(∀r∈rows,AV.dj r=true)/\((∀id bP,a≠.mu id bP)->∀r∈rows,AV.ah r=true):=by
  intro s h
  have h0:∃a n c,v=.slice (some a) n c:=by cases h;exact⟨_,_,_,rfl⟩
  obtain⟨ad,n,c,rfl⟩:=h0
  obtain⟨e1,e2,e3,e4,e5,e6,xs,e7,e8⟩:=FX h
  subst e1
  exact⟨xs,e7,slice ad c xs e2 e7 e8 e6,e6,e4,λ_=>e5⟩
 have UR:rows=[]->∀c,v=.slice none 0 c->∃xs,bV w G rows.flatten xs/\Go.Src P sz tx v rows.length xs w/\(∀r∈rows,AV.aH r=true)/\(∀r∈rows,AV.dj r=true)/\((∀id bP,a≠.mu id bP)->∀r∈rows,AV.ah r=true):=by
  intro h0 c hv
  subst h0;subst hv
  exact⟨[],⟨rfl,λi c v h=>by simp at h⟩,⟨hk,λ_=>rfl,run_firstCells_none w sz 0 0 c,run_firstCells_none w.drew sz 0 0 c,by simp,λu hu=>by cases hu⟩,by simp,by simp,by simp⟩
 unfold di at hb
 split at hb
 ·rename_i l
  cases hb
  obtain⟨s,rfl,rfl⟩:=h.kM
  refine⟨byteCells s,?_,?_,?_,?_,?_⟩
  ·rw[CY]
   unfold byteCells
   refine⟨by simp,λi c v h1 h2=>?_⟩
   simp only[List.getElem?_map,Option.map_eq_some_iff]at h1 h2
   obtain⟨b,h1,rfl⟩:=h1
   obtain⟨b',h2,rfl⟩:=h2
   rw[h1]at h2;cases h2
   exact .int _ _
  ·have hlen:(dM s.data.toList).length=s.size:=by simp[dM]
   rw[hlen]
   have one:∀u∈byteCells s,u.oneCell'=true:=λu hu=>by
    obtain⟨_,_,rfl⟩:=List.mem_map.1 hu
    rfl
   by_cases hs:sz=1
   ·subst hs
    exact⟨hk,λ_=>rfl,firstCells_string s w,firstCells_string s w.drew,by rw[byteCells_length,Nat.mul_one],one⟩
   ·have h0:s.size=0:=by
     rcases Nat.eq_zero_or_pos s.size with h|h
     ·exact h
     ·have h2:s.data.toList≠[]:=by
       intro h3
       have:s.data.toList.length=s.size:=by simp
       rw[h3]at this;simp at this;omega
      obtain⟨b,l,hl⟩:=List.exists_cons_of_ne_nil h2
      rw[hl]at hf
      simp[fits,dM]at hf
      exact absurd hf.1.symm hs
    have xJ:byteCells s=[]:=by
     apply List.eq_nil_of_length_eq_zero
     rw[byteCells_length,h0]
    have Sk:∀w',(Builtin.firstCells sz s.size (.string s)).run P w'=.ok (byteCells s).toArray w':=λw'=>firstCells_string s w'
    exact⟨hk,λ_=>rfl,Sk w,Sk w.drew,by rw[xJ,h0,Nat.zero_mul];rfl,one⟩
  all_goals
   intros
   rename_i hr
   simp only[dM,List.mem_map]at hr
   obtain⟨b,_,rfl⟩:=hr
   simp[AV.aH,AV.cv,AV.dj,AV.bR,AV.ah,AV.an]
 ·rename_i id bP
  split at hb
  ·rename_i dy hr
   cases hb
   simp only[rowsOf]at hr
   split at hr
   ·rename_i v' s ae6 eG
    split at hr
    ·rename_i hv
     cases hr
     obtain⟨loc,hl,yJ,xz,gn⟩:=hI.loc eG
     cases h with
     |mu _ _ _ loc' hp nA Cr he=>
      rw[hl]at nA;cases nA
      have hve:bP=loc.bP:=by omega
      have cw:=he hve
      rw[gn.len]at cw
      have gK:∀r∈dy.map AV.cy,AV.aH r=true:=λr hr=>by
       obtain⟨r',uA,rfl⟩:=List.mem_map.1 hr
       rw[oH];exact gn.zG r' uA
      have hY:∀r∈dy.map AV.cy,AV.dj r=true:=λr hr=>by
       obtain⟨r',uA,rfl⟩:=List.mem_map.1 hr
       exact fB r'
      rcases gn.nB with⟨h0,p8,_⟩|⟨b,off,c,e',IA,eJ,eu,hle,hlen,gq,cW⟩
      ·subst p8
       simp only[List.length_nil]at cw
       cases aaC:loc.a with
       |none=>
        rw[aaC]at cw
        exact UR (by simp) _ cw
       |some ad=>
        refine⟨[],⟨rfl,λi c v h=>by simp at h⟩,⟨hk,λ_=>by rw[cw];simp[Builtin.lenOf],?_,?_,by simp,by simp⟩,gK,hY,λh=>absurd rfl (h id bP)⟩
        all_goals
         rw[cw,aaC]
         simp[Builtin.firstCells,loadCells,loadCellsFrom]
      ·rw[IA]at cw
       subst cw
       have dc:bV w G (dy.map AV.cy).flatten loc.vals.flatten:=by
        rw[uL]
        exact(qP dy loc.vals gn.p6.symm gn.qo).view
       have J8:∀r∈loc.vals,r.length=s:=λr hr=>by
        obtain⟨i,hi,rfl⟩:=List.mem_iff_getElem.1 hr
        have n8:i<dy.length:=by rw[<-gn.p6];exact hi
        rw[<-(gn.qo i dy[i] loc.vals[i] (List.getElem?_eq_getElem n8) (List.getElem?_eq_getElem hi)).1]
        exact bZ.1 gn.fit _ (List.getElem_mem n8)
       have:=slice ⟨b,off,none⟩ loc.cap loc.vals.flatten rfl dc (λk x hx=>by
        obtain⟨i,j,r,rfl,e2,e3⟩:=mW loc.vals k x J8 hx
        exact cW i r j x e2 e3) gK
       simp only[List.length_map]at this ⊢
       exact⟨_,dc,this,gK,hY,λh=>absurd rfl (h id bP)⟩
    ·cases hr
   ·cases hr
  ·cases hb
 ·rename_i hn1 hn2
  unfold rowsOf at hb
  split at hb
  ·cases hb;cases h;exact UR rfl _ rfl
  ·cases hb;cases h
   rename_i ad
   refine⟨[],⟨rfl,λi c v h=>by simp at h⟩,⟨hk,λ_=>rfl,?_,?_,by simp,by simp⟩,by simp,by simp,by simp⟩
   all_goals simp[Builtin.firstCells,loadCells,loadCellsFrom]
  ·cases hb;exact cN _ h
  ·cases hb;exact cN _ h.view
  ·rename_i id bP
   exact absurd rfl (hn2 id bP)
  ·cases hb
end Ax
namespace Ax
open Go
variable {P:Program}{w w':World}{G G':aK}{β fI:List kO}{ρ:Operand->Value}{o:Oper}
theorem fS (g p:Nat)(t:TypeId)(vs:List Value)(cur:Array Value)(w:World)(hg:w.heap[g]?=some (.cells cur t (0,0)))(hl:p+vs.length<=cur.size)(h1:∀v∈vs,v.oneCell'=true) :
  (storeCells ⟨g,p,none⟩ vs).run P w=.ok () (w.setRow g (af cur.toList p vs).toArray):=by
 have:=run_storeCells_at P g p t vs 0 cur w hg (by simpa using hl) h1
 rw[iS _ _ _ (by simpa using hl)]
 simpa using this
structure Wr (w:World)(G:aK)(w':World)(G':aK)(b:Nat):Prop where
 size:w'.heap.size=w.heap.size
 heap:∀b',b'≠b->w'.heap[b']?=w.heap[b']?
 Sl:∀b',b'≠b->G'.kg b'=G.kg b'
 kg:∃p p',G.kg b=some p/\G'.kg b=some p'/\p<=p'/\∀o,o<p->w'.cell? ⟨b,o,none⟩=w.cell? ⟨b,o,none⟩
 ids:∀(id:Nat) loc,G.ls[id]?=some loc->∃loc',G'.ls[id]?=some loc'/\loc.bP<=loc'.bP/\(loc.bP=loc'.bP\/loc.mp=true->loc'.hd=loc.hd)
theorem Wr.iu {b:Nat}(h:Wr w G w' G' b):pF w G w' G' where
 No:=λb' o hi=>by
  by_cases hb:b'=b
  ·subst hb
   obtain⟨p,p',h1,h2,h3,h4⟩:=h.kg
   have ho:=hi.2 p h1
   refine⟨h4 o ho,by rw[h.size];exact hi.1,λq hq=>?_⟩
   rw[h2]at hq;cases hq;omega
  ·refine⟨nT (h.heap b' hb),by rw[h.size];exact hi.1,λp hp=>?_⟩
   rw[h.Sl b' hb]at hp
   exact hi.2 p hp
 ids:=h.ids
theorem Wr.iy {b b':Nat}(h:Wr w G w' G' b)(hb:b'≠b):dw w G w' G' b':=⟨h.Sl b' hb,h.heap b' hb⟩
theorem AF (G:aK):∀(id:Nat) loc,G.ls[id]?=some loc->∃loc',G.ls[id]?=some loc'/\loc.bP<=loc'.bP/\(loc.bP=loc'.bP\/loc.mp=true->loc'.hd=loc.hd):=λ_ loc h=>⟨loc,h,Nat.le_refl _,λ_=>rfl⟩
def aK.at (G:aK)(id:Nat)(loc:Loc):aK:=⟨G.ls.set id loc,G.kg⟩
theorem AG {id:Nat}{loc loc':Loc}(hl:G.ls[id]?=some loc)(hv:loc.bP<=loc'.bP)(hh:loc.bP=loc'.bP\/loc.mp=true->loc'.hd=loc.hd):∀(i:Nat) l,G.ls[i]?=some l->∃l',(G.at id loc').ls[i]?=some l'/\l.bP<=l'.bP/\(l.bP=l'.bP\/l.mp=true->l'.hd=l.hd):=by
 intro i l h
 by_cases hi:i=id
 ·subst hi
  rw[hl]at h;cases h
  exact⟨loc',by simp only[aK.at];rw[List.getElem?_set,if_pos rfl,if_pos (List.getElem?_eq_some_iff.1 hl).1],hv,hh⟩
 ·exact⟨l,by simp only[aK.at];rw[List.getElem?_set,if_neg (λe=>hi e.symm)];exact h,Nat.le_refl _,λ_=>rfl⟩
theorem IF {id:Nat}{loc loc':Loc}(hl:G.ls[id]?=some loc)(hv:loc.bP<=loc'.bP)(hh:loc.bP=loc'.bP\/loc.mp=true->loc'.hd=loc.hd):pF w G w (G.at id loc'):=
 ⟨λ_ _ h=>⟨rfl,h⟩,AG hl hv hh⟩
theorem zK {st:aj}(hI:Inv w G st)(hs:pF w G w' G'){id:Nat}{loc':Loc}{Fx:fh}(IG:G'.ls=G.ls.set id loc')(hu:∀(i:Nat) l ob b,i≠id->G.ls[i]?=some l->st[i]?=some ob->0<gu b l ob->dw w G w' G' b)
  (qt:nC w' G' Fx loc') (ht:∀b p,G'.kg b=some p->b<w'.heap.size):Inv w' G' (st.set id Fx) where
 len:=by rw[IG];simp[hI.len]
 obj:=λi ob loc h1 h2=>by
  rw[IG]at h2
  rw[List.getElem?_set]at h1 h2
  by_cases hi:id=i
  ·subst hi
   rw[if_pos rfl]at h1 h2
   split at h1
   ·split at h2
    ·cases h1;cases h2;exact qt
    ·cases h2
   ·cases h1
  ·rw[if_neg hi]at h1 h2
   exact(hI.obj i ob loc h1 h2).iu hs λb hb=>hu i loc ob b (λe=>hi e.symm) h2 h1 hb
 kP:=ht
theorem sE {st:aj}(hI:Inv w G st)(hs:pF w G w' G')(IG:G'.ls=G.ls)(hu:∀b,0<bS b G.ls st->dw w G w' G' b)(ht:∀b p,G'.kg b=some p->b<w'.heap.size):Inv w' G' st where
 len:=by rw[IG];exact hI.len
 obj:=λi ob loc h1 h2=>by
  rw[IG]at h2
  refine(hI.obj i ob loc h1 h2).iu hs λb hb=>hu b ?_
  have:=lC b G.ls st i loc ob h2 h1
  omega
 kP:=ht
theorem kX {bx:aS}(hB:jg w G β bx)(hs:pF w G w' G')(hu:∀b,0<fj b β bx->dw w G w' G' b):jg w' G' β bx where
 len:=hB.len
 box:=λj row g h1 h2=>(hB.box j row g h1 h2).iu hs λb hb=>hu b (by
  have:=lD b β bx j g row h2 h1
  omega)
theorem Wr.kP {b:Nat}{st:aj}(h:Wr w G w' G' b)(hI:Inv w G st):∀b p,G'.kg b=some p->b<w'.heap.size:=by
 intro b' p hp
 rw[h.size]
 by_cases hb:b'=b
 ·subst hb
  obtain⟨q,q',h1,_⟩:=h.kg
  exact hI.kP _ _ h1
 ·rw[h.Sl b' hb]at hp
  exact hI.kP _ _ hp
theorem AH {b p p':Nat}{cur:Array Value}{e:TypeId}{q:Nat}{vs:List Value}{ls:List Loc}(hg:w.heap[b]?=some (.cells cur e (0,0)))(hl:q+vs.length<=cur.size)(ht:G.kg b=some p)(Rx:p<=q)(hpp:p<=p')
  (CA:∀(id:Nat) loc,G.ls[id]?=some loc->∃loc',ls[id]?=some loc'/\loc.bP<=loc'.bP/\(loc.bP=loc'.bP\/loc.mp=true->loc'.hd=loc.hd)) :
  Wr w G (w.setRow b (af cur.toList q vs).toArray) ⟨ls,λb'=>if b'=b then some p' else G.kg b'⟩ b where
 size:=setRow_size _ _ _
 heap:=λb' hb=>setRow_other w b b' _ hb
 Sl:=λb' hb=>by simp[hb]
 kg:=⟨p,p',ht,by simp,hpp,λo ho=>by
  rw[cell_setRow_same w b o cur _ e (0,0) hg]
  have:w.cell? ⟨b,o,none⟩=cur[o]?:=by simp[World.cell?,hg]
  rw[this,List.getElem?_toArray,iw _ _ _ _ (by simpa using hl),if_neg (by omega)]
  simp⟩
 ids:=CA
theorem pK {b q k:Nat}{cur:Array Value}{e:TypeId}{vs:List Value}(hg:w.heap[b]?=some (.cells cur e (0,0)))(hl:q+vs.length<=cur.size) :
  (w.setRow b (af cur.toList q vs).toArray).cell? ⟨b,k,none⟩=if q<=k/\k<q+vs.length then vs[k-q]? else w.cell? ⟨b,k,none⟩:=by
 rw[cell_setRow_same w b k cur _ e (0,0) hg]
 have:w.cell? ⟨b,k,none⟩=cur[k]?:=by simp[World.cell?,hg]
 rw[this,List.getElem?_toArray,iw _ _ _ _ (by simpa using hl)]
 simp
structure II (P:Program)(t tx e:TypeId)(sz bytes:Nat)(i:TypeInfo)(z:Value):Prop where
 ht:P.underlying t=some (.slice e)
 hi:P.info? e=some i
 hz:i.zero=some z
 dL:i.size=sz
 Si:i.bytes=bytes
 Nw:z.cells.size=sz
 pos:0<sz
 NC:0<bytes
 kind:(∃e',P.underlying tx=some (.slice e'))\/P.underlying tx=some .string
theorem J9 {n bytes:Nat}(h:n*bytes<=140737488355328)(hb:0<bytes):((n:Nat):Int)<=9223372036854775807:=by
 have:n<=n*bytes:=Nat.le_mul_of_pos_right n hb
 omega
theorem oI {t tx ty e:TypeId}{sz bytes:Nat}{i:TypeInfo}{z:Value}(h:II P t tx e sz bytes i z)(b off fG jr:Nat)(cur:Array Value)(e0:TypeId)(hg:w.heap[b]?=some (.cells cur e0 (0,0)))(x:Value)(n:Nat)(news:List Value)(hs:Go.Src P sz tx x n news w)
  (ki:fG+n<=jr) (bY:off+jr*sz<=cur.size) :
  (Builtin.append_ #[t,tx] ty #[.slice (some ⟨b,off,none⟩) fG jr,x]).run P w=.ok (.slice (some ⟨b,off,none⟩) (fG+n) jr) (w.setRow b (af cur.toList (off+fG*sz) news).toArray):=by
 have hle:off+fG*sz+news.length<=cur.size:=by
  rw[hs.newsLen]
  have:(fG+n)*sz<=jr*sz:=Nat.mul_le_mul_right _ ki
  rw[Nat.add_mul]at this
  omega
 have eG:=fS (P:=P) b (off+fG*sz) e0 news cur w hg hle hs.one
 have hc:=hs.cells
 have dL:=h.dL
 subst dL
 rcases hs.kind with⟨e',hk⟩|hk<;>simp[Builtin.append_,run_underlying h.ht,run_underlying hk,Go.sizeOf,typeInfo,h.hi,hs.len,ki,hc,Addr.add_lit,eG]
theorem oJ {t tx ty e:TypeId}{sz bytes:Nat}{i:TypeInfo}{z:Value}(h:II P t tx e sz bytes i z)(base:Option Addr)(fG jr:Nat)(olds:List Value)
  (hold:(Builtin.firstCells sz fG (.slice base fG jr)).run P w.drew=.ok olds.toArray w.drew) (M1:olds.length=fG*sz) (x:Value) (n:Nat) (news:List Value) (hs:Go.Src P sz tx x n news w)
  (hg:jr<fG+n) (hb:(fG+n)*bytes<=140737488355328) :
  ∃cap c,(Builtin.append_ #[t,tx] ty #[.slice base fG jr,x]).run P w=.ok (.slice (some ⟨w.heap.size,0,none⟩) (fG+n) cap) (w.drew.alloc (.cells c e))/\fG+n<=cap/\cap*sz<=c.size/\
   ∀(k:Nat) v,(olds++news)[k]?=some v->c[k]?=some v:=by
 have dL:=h.dL
 subst dL
 have Si:=h.Si
 subst Si
 refine⟨_,_,run_append_grow_src w t tx ty e i z h.ht h.hi h.hz base fG jr olds hold x n news hs hg (J9 hb h.NC) (growslice_fits hg hb),grownCap_ge _ _ _ _,?_,λk v hv=>?_⟩
 ·have h1:=grownCap_ge w (fG+n) jr e
  rw[Array.size_append,size_zeroCells,h.Nw]
  simp only[List.size_toArray,List.length_append,M1,hs.newsLen]
  rw[<-Nat.add_mul,<-Nat.add_mul]
  exact Nat.mul_le_mul_right _ (by omega)
 ·have hk:=(List.getElem?_eq_some_iff.1 hv).1
  rw[Array.getElem?_append,if_pos (by simpa using hk)]
  simpa using hv
theorem CZ (a:Addr):w.drew.cell? a=w.cell? a:=rfl
theorem bV.CB {rows:List (List AV)}(h:∀r∈rows,AV.aH r=true):AV.aH rows.flatten=true:=by
 simp only[AV.aH,List.all_eq_true]
 intro c hc
 obtain⟨r,hr,hc⟩:=List.mem_flatten.1 hc
 have:=h r hr
 simp only[AV.aH,List.all_eq_true]at this
 exact this c hc
theorem sF {sz:Nat}{a b:List (List AV)}(h:fits sz a=true)(k:fits sz b=true):fits sz (a++b)=true:=by
 rw[bZ]at *
 intro r hr
 rcases List.mem_append.1 hr with h'|h'
 ·exact h r h'
 ·exact k r h'
theorem mL {a b:List (List AV)}{p:List AV->Prop}(h:∀r∈a,p r)(k:∀r∈b,p r):∀r∈a++b,p r:=by
 intro r hr
 rcases List.mem_append.1 hr with h'|h'
 ·exact h r h'
 ·exact k r h'
theorem ND {t tx ty e:TypeId}{sz bytes:Nat}{i:TypeInfo}{z:Value}(h:II P t tx e sz bytes i z){st:aj}{bx:aS}(hI:Inv w G st)(hB:jg w G β bx){cO:Nat->Nat}(hX:∀b,cO b+fj b β bx+bS b G.ls st<=1)
  {s x:AV} {vs vx:Value} (hs:aL w G s vs) (hx:aL w G x vx) (nt:∀b,eH b s vs<=cO b) {wl aa:Nat} {bK:aj} {eI:aS} {r:dK} (ha:aI wl aa (.append sz bytes) [.val s,.val x] st bx=some (r,bK,eI)) :
  ∃v w' G',(Builtin.append_ #[t,tx] ty #[vs,vx]).run P w=.ok v w'/\iz w G β st bx cO w' G' β bK eI r v:=by
 simp only[aI]at ha
 split at ha
 ·cases ha
 ·rename_i new qt
  split at ha
  ·rename_i bY
   have hnm:∀id bP,x≠.mu id bP:=by
    intro id bP hx;subst hx;simp[di,rowsOf]at qt
   have aaD:di st x=some new:=by
    unfold di at qt ⊢
    cases x<;>simp_all [rowsOf]
   obtain⟨news,dc,lY,gK,hY,mU⟩:=tP hI hx aaD bY h.kind
   have mU:=mU hnm
   have fresh:∀base,(Builtin.firstCells sz 0 (.slice base 0 0)).run P w.drew=.ok ([]:List Value).toArray w.drew->new≠[]->new.length*bytes<=room->
     ∃v w' G',(Builtin.append_ #[t,tx] ty #[.slice base 0 0,vx]).run P w=.ok v w'/\iz w G β st bx cO w' G' β st bx (.val (.own sz new)) v:=by
    intro base hf jH hr
    have hn:0<new.length:=List.length_pos_iff.2 jH
    obtain⟨cap,c,e1,e2,e3,e4⟩:=oJ (ty:=ty) h base 0 0 [] hf (by simp) vx new.length news lY (by omega) (by simpa [room] using hr)
    simp only[Nat.zero_add,List.nil_append]at e1 e2 e4
    obtain⟨G',hA⟩:=D6 (w':=w.drew.alloc (.cells c e)) (cO:=cO) hI hB rfl rfl rfl bY gK hY mU dc e3 e2 e4
    exact⟨_,_,G',e1,hA⟩
   split at ha
   ·split at ha
    ·rename_i xK
     cases ha
     have h0:new=[]:=by simpa using xK
     subst h0
     cases hs
     have hn:news=[]:=by
      have:=dc.1;simp at this;exact List.eq_nil_of_length_eq_zero this.symm
     subst hn
     have:=run_append_nothing w t tx ty e i h.ht h.hi none 0 0 (Nat.le_refl _) vx (by rw[h.dL];exact lY)
     exact⟨_,_,_,this,iz.quiet hI hB (aL.U) λb=>by simp[cg,eH]⟩
    ·rename_i xK
     split at ha
     ·rename_i hr
      cases ha
      cases hs
      exact fresh none (run_firstCells_none _ _ _ _ _) (by simpa using xK) hr
     ·cases ha
   ·split at ha
    ·rename_i xK
     cases ha
     have h0:new=[]:=by simpa using xK
     subst h0
     have hn:news=[]:=by
      have:=dc.1;simp at this;exact List.eq_nil_of_length_eq_zero this.symm
     subst hn
     cases hs with
     |emp a=>
     have:=run_append_nothing w t tx ty e i h.ht h.hi (some a) 0 0 (Nat.le_refl _) vx (by rw[h.dL];exact lY)
     exact⟨_,_,_,this,iz.quiet hI hB (aL.emp a) λb=>by simp[cg,eH]⟩
    ·rename_i xK
     split at ha
     ·rename_i hr
      cases ha
      cases hs with
      |emp a=>
      exact fresh (some a) (by simp[Builtin.firstCells,loadCells,loadCellsFrom]) (by simpa using xK) hr
     ·cases ha
   ·rename_i iI old
    split at ha
    ·rename_i hc
     simp only[Bool.and_eq_true,decide_eq_true_eq]at hc
     obtain⟨rfl,hr⟩:=hc
     cases ha
     have hv:=hs.view
     cases hs with
     |own _ _ a cap nS eJ Zd V1 aaE aaF xJ NF gq eF=>
     simp only[AV.view]at hv
     obtain⟨_,_,_,_,_,_,olds,hro,hxo⟩:=FX hv
     obtain⟨b,off,sp⟩:=a
     simp only at nS gq eF hxo
     subst nS
     have M1:olds.length=old.length*iI:=by rw[<-hro.1];exact eA old (bZ.1 Zd)
     have M3:news.length=new.length*iI:=lY.newsLen
     have iN:=sF Zd bY
     have pL:(old++new).flatten=old.flatten++new.flatten:=List.flatten_append
     by_cases ki:old.length+new.length<=cap
     ·obtain⟨c,e0,hg,US⟩:=eF
      have hle:off+old.length*iI+news.length<=c.size:=by
       rw[M3]
       have:(old.length+new.length)*iI<=cap*iI:=Nat.mul_le_mul_right _ ki
       rw[Nat.add_mul]at this
       omega
      have e1:=oI (ty:=ty) h b off old.length cap c e0 hg vx new.length news lY ki US
      have hW:Wr w G (w.setRow b (af c.toList (off+old.length*iI) news).toArray) ⟨G.ls,λb'=>if b'=b then some (off+(old++new).length*iI) else G.kg b'⟩ b:=
       AH hg hle gq (Nat.le_refl _) (by rw[List.length_append,Nat.add_mul];omega) (AF G)
      have kq:cO b=1/\fj b β bx=0/\bS b G.ls st=0:=by
       have h1:=hX b
       have h2:=nt b
       simp only[eH,if_true]at h2
       omega
      have FY:∀b',b'≠b->dw w G _ _ b':=λb' hb=>hW.iy hb
      refine⟨_,_,⟨G.ls,λb'=>if b'=b then some (off+(old++new).length*iI) else G.kg b'⟩,e1,?_⟩
      have aaG:bV (w.setRow b (af c.toList (off+old.length*iI) news).toArray) ⟨G.ls,λb'=>if b'=b then some (off+(old++new).length*iI) else G.kg b'⟩ (old++new).flatten (olds++news):=by
       rw[pL]
       refine(hro.append dc).mono hW.iu λb' kW=>?_
       rw[<-pL,cU b' _ _ ((cn _).2 λx hx=>?_)]at kW
       ·omega
       ·obtain⟨r,hr,hx⟩:=List.mem_flatten.1 hx
        exact(cn r).1 (mL V1 hY r hr) x hx
      have eu:=setRow_heap w b c (af c.toList (off+old.length*iI) news).toArray e0 (0,0) hg
      have V0:=D5 (cap:=cap) iN (mL aaF gK) (mL V1 hY) (mL aaE mU) aaG eu (by rw[List.size_toArray,cZ];simpa using US) (by simpa using ki) (by simp) (λk x hk=>by
       rw[List.getElem?_toArray,iw _ _ _ _ (by simpa using hle)]
       by_cases FZ:k<olds.length
       ·rw[List.getElem?_append_left FZ]at hk
        rw[if_neg (by omega)]
        have:=hxo k x hk
        simpa [World.cell?,hg] using this
       ·rw[List.getElem?_append_right (by omega)]at hk
        have aZ:=(List.getElem?_eq_some_iff.1 hk).1
        rw[if_pos (by omega)]
        rw[show off+k-(off+old.length*iI)=k-olds.length by omega]
        exact hk)
      refine⟨hW.iu,sE hI hW.iu rfl (λb' kW=>FY b' ?_) (hW.kP hI),kX hB hW.iu λb' kW=>FY b' ?_,by rw[<-List.length_append];exact V0,λb'=>?_,λb' kW _=>FY b' ?_,by simp,rfl,rfl⟩
      ·intro e;subst e;omega
      ·intro e;subst e;omega
      ·have h2:=nt b'
       simp only[eH]at h2
       simp only[cg,eH]
       omega
      ·intro e;subst e;omega
     ·have uA:(old.length+new.length)*bytes<=140737488355328:=hr
      have hf:(Builtin.firstCells iI old.length (.slice (some ⟨b,off,none⟩) old.length cap)).run P w.drew=.ok olds.toArray w.drew:=
       run_firstCells_some w.drew iI old.length ⟨b,off,none⟩ old.length cap olds M1 (λj v hj=>by rw[jO,CZ];exact hxo j v hj)
      obtain⟨LA,c,e1,e2,e3,e4⟩:=oJ (ty:=ty) h (some ⟨b,off,none⟩) old.length cap olds hf M1 vx new.length news lY (by omega) uA
      rw[<-List.length_append]at e1 e2
      obtain⟨G',hA⟩:=D6 (w':=w.drew.alloc (.cells c e)) (cO:=cO) hI hB rfl rfl rfl iN (mL aaF gK) (mL V1 hY) (mL aaE mU) (by rw[pL];exact hro.append dc) e3 e2 e4
      exact⟨_,_,G',e1,hA⟩
    ·cases ha
   ·cases ha
  ·cases ha
end Ax
