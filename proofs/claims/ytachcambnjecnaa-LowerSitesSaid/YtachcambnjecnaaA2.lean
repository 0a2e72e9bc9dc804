/- The library of this proof, part 2: an abstract interpreter of the loaded code, and its soundness. -/
import Derived.Test.YtachcambnjecnaaA1
import Derived.Laws.Tables
import Derived.Laws.Cells
import Derived.Laws.CopyRow
import Derived.Great.BuildSlice
import Derived.Laws.MakeOwn
import Derived.Carry
import Derived.Deep.Upon

namespace Ax
open Go
variable {P:Program}{w:World}{G:aM}{β:List lE}{ρ:Operand->Value}{o:Oper}
theorem JA{c:Call}{x:Operand}(h:c.args.toList=[x]):c.args = #[x]:=by
 have:=congrArg List.toArray h;simpa using this
theorem mX{c:Call}{x y:Operand}(h:c.args.toList=[x,y]):c.args = #[x,y]:=by
 have:=congrArg List.toArray h;simpa using this
theorem ab2{c:Call}(ho:o.op=.call c)(hc:c.callee=.builtin .max){x y:Operand}(hx:c.args.toList=[x,y]){k:IntKind}{a b:Int}
  (ha:aO w G (.int k a) (ρ x))(hb:aO w G (.int k b) (ρ y)):(execOp ρ o).run P w=.ok (.value (.int k (if b > a then b else a))) w:=by
 simp only[execOp,ho,resolve,hc,Sem.run_bind,Sem.run_pure,Result.andThen_ok,invoke,builtin,mX hx]
 simp[Builtin.max_,Builtin.max2,ha.fD,hb.fD]
theorem ab3{c:Call}(ho:o.op=.call c)(hc:c.callee=.builtin .min){x y:Operand}(hx:c.args.toList=[x,y]){k:IntKind}{a b:Int}
  (ha:aO w G (.int k a) (ρ x))(hb:aO w G (.int k b) (ρ y)):(execOp ρ o).run P w=.ok (.value (.int k (if b<a then b else a))) w:=by
 simp only[execOp,ho,resolve,hc,Sem.run_bind,Sem.run_pure,Result.andThen_ok,invoke,builtin,mX hx]
 simp[Builtin.min_,Builtin.min2,ha.fD,hb.fD]
theorem wE{x:Operand}(ho:o.op=.nilCheck x){a:Addr}(hx:ρ x=.pointer (some a)):(execOp ρ o).run P w=.ok (.value (ρ x)) w:=by
 simp only[execOp,ho,hx];rfl
theorem MK{x:Operand}{i:Nat}(ho:o.op=.extract x i){vs:List AV}{v:AV}(hv:vs[i]?=some v)(ha:aO w G (.fK vs) (ρ x)) :
  ∃u,(execOp ρ o).run P w=.ok (.value u) w/\aO w G v u/\∀b,fj b v u<=fj b (.fK vs) (ρ x):=by
 generalize hx:ρ x=xv at ha
 cases ha with
 |fK _ us hl hh=>
  have hi:i<vs.length:=(List.getElem?_eq_some_iff.1 hv).1
  have oT:i<us.size:=by omega
  refine⟨us[i],?_,hh i v us[i] hv (by simp[oT]),λb=>?_⟩
  ·simp only[execOp,ho,hx]
   simp[Instr.extract,oT]
  ·simp only[fj]
   exact tM b vs us.toList i v us[i] hv (by simp[oT])
theorem pG{cs r:List AV}{k n:Nat}(h:cut cs k n=some r):r=(cs.drop k).take n/\k+n<=cs.length/\r.length=n:=by
 unfold cut at h
 split at h
 ·cases h;exact⟨rfl,by assumption,by simp;omega⟩
 ·cases h
theorem wF{t:TypeId}{b:Bool}(h:mh P t=some b)(w:World):(isAgg t).run P w=.ok b w:=by
 unfold mh at h
 split at h
 ·rename_i hu;cases h;simp[isAgg,run_underlying hu]
 ·rename_i hu;cases h;simp[isAgg,run_underlying hu]
 ·rename_i d h1 h2 hu
  cases h
  cases d<;>simp_all [isAgg,run_underlying hu]
 ·cases h
theorem AF{agg:Bool}{r:List AV}{v:AV}(h:b9 agg r=some v){xs:List Value}(hx:cj w G r xs) :
  ∃u,(if agg then .agg xs.toArray else xs.headD undef)=u/\aO w G v u/\(∀b,fj b v u=bV b r xs)/\(agg=false->∃c x,r=[c]/\xs=[x]/\v=c/\u=x):=by
 refine⟨_,rfl,?_⟩
 unfold b9 at h
 cases agg with
 |true=>
  simp only[if_true,Option.some.injEq]at h
  subst h
  refine⟨.agg _ _ (by simpa using hx.1) λi c v hc hv=>hx.2 i c v hc (by simpa using hv),λb=>by simp[fj],by simp⟩
 |false=>
  simp only[Bool.false_eq_true,if_false]at h
  split at h
  ·rename_i c
   cases h
   match xs,hx with
   |[x],hx=>exact⟨hx.2 0 v x rfl rfl,λb=>by simp[bV],λ_=>⟨v,x,rfl,rfl,rfl,rfl⟩⟩
   |[],hx=>simp[cj]at hx
   |_::_::_,hx=>simp[cj]at hx
  ·cases h
theorem TC(vs:Array Value)(off n:Nat):vs.extract off (off+n)=((vs.toList.drop off).take n).toArray:=by
 apply Array.ext'
 simp[Array.toList_extract,List.extract]
theorem TD{t:TypeId}{x:Operand}{f:Nat}(ho:o.op=.field t x f){fs:Array Field}{fd:Field}(hu:P.underlying t=some (.struct fs))(hf:fs[f]?=some fd){off n:Nat}{agg:Bool}
  (ab4:fd.offset=off)(hn:cx P fd.type n=true)(qP:mh P fd.type=some agg){cs r:List AV}{v:AV}(hc:cut cs off n=some r)(hv:b9 agg r=some v)
  (ha:aO w G (.agg cs) (ρ x)):∃u,(execOp ρ o).run P w=.ok (.value u) w/\aO w G v u/\∀b,fj b v u<=fj b (.agg cs) (ρ x):=by
 generalize hx:ρ x=xv at ha
 cases ha with
 |agg _ vs hl hh=>
  obtain⟨rfl,hle,hlen⟩:=pG hc
  have hC:cj w G cs vs.toList:=⟨by simpa using hl,λi c v h1 h2=>hh i c v h1 (by simpa using h2)⟩
  have hR:=(hC.drop off).take n
  obtain⟨u,hu',h1,h2,h3⟩:=AF hv hR
  refine⟨u,?_,h1,λb=>?_⟩
  ·simp only[execOp,ho,hx]
   simp only[Instr.field,Sem.run_bind,run_underlying hu,Result.andThen_ok,hf,asAgg,Sem.run_pure,part,wF qP,ab4]
   cases agg with
   |true=>
    simp only[if_true]at hu'
    subst hu'
    simp[dK hn,TC]
   |false=>
    obtain⟨c,y,e1,e2,e3,e4⟩:=h3 rfl
    have hy:vs[off]?=some y:=by
     have:=congrArg (·[0]?) e2
     simp only[List.getElem?_take,List.getElem?_drop]at this
     split at this
     ·simpa using this
     ·simp at this
    simp[hy,e4]
  ·rw[h2]
   simp only[fj]
   have a1:=MJ b n (cs.drop off) (vs.toList.drop off) (by simp;omega)
   have a2:=uR b off cs vs.toList (by simpa using hl)
   omega
theorem E3{place:Nat->Option (Nat×Nat)}:∀(ps:List (Nat×Value))(qs:List (Nat×Nat))(vs:List AV)(zero cs:List AV)(zc:Array Value),ir zero qs vs=some cs->cj w G zero zc.toList->
  cj w G vs (ps.map (·.2))->(∀(i:Nat) p q,ps[i]?=some p->qs[i]?=some q->place p.1=some q)->
  ∃cells,Instr.fill place zc ps=some cells/\cj w G cs cells.toList/\∀b,bV b cs cells.toList<=bV b zero zc.toList+bV b vs (ps.map (·.2))
 |[],qs,vs,zero,cs,zc,h,hz,hv,hp=>by
  cases vs with
  |nil=>
   cases qs with
   |nil=>simp[ir]at h;subst h;exact⟨zc,rfl,hz,λb=>by omega⟩
   |cons q qs=>simp[ir]at h
  |cons v vs=>simp[cj]at hv
 |p::ps,qs,vs,zero,cs,zc,h,hz,hv,hp=>by
  cases vs with
  |nil=>simp[cj]at hv
  |cons v vs=>
   cases qs with
   |nil=>simp[ir]at h
   |cons q qs=>
    obtain⟨off,n⟩:=q
    simp only[ir]at h
    split at h
    ·rename_i hc
     simp only[Bool.and_eq_true,decide_eq_true_eq]at hc
     obtain⟨TE,ab4⟩:=hc
     have OT:=hp 0 p (off,n) rfl rfl
     have XH:aO w G v p.2:=hv.2 0 v p.2 rfl rfl
     obtain⟨OU,Le⟩:=XH.cells
     have eH:p.2.cells.size=n:=by have:=OU.1;simp at this;omega
     have OW:zc.size=zero.length:=by have:=hz.1;simp at this;omega
     have ML:=Jz off p.2.cells.toList zc (by simp;omega)
     have Ak:cj w G (af zero off v.cells) (af zc.toList off p.2.cells.toList):=hz.af OU (by omega)
     have Dn:cj w G vs (ps.map (·.2)):=⟨by have:=hv.1;simpa using this,λi c x h1 h2=>hv.2 (i+1) c x (by simpa using h1) (by simpa using h2)⟩
     have step:Instr.fill place zc (p::ps)=Instr.fill place (p.2.cells.zipIdx.foldl (λcs (c,j)=>cs.setIfInBounds (off+j) c) zc) ps:=by
      obtain⟨pi,pv⟩:=p
      simp only[Instr.fill]
      rw[OT]
      simp only
      rw[if_neg (by simp at eH ⊢;omega)]
     simp only[Array.toArray_toList]at ML
     obtain⟨cells,e1,e2,e3⟩:=E3 ps qs vs (af zero off v.cells) cs _ h (by rw[ML];exact Ak) Dn (λi p q h1 h2=>hp (i+1) p q (by simpa using h1) (by simpa using h2))
     refine⟨cells,step.trans e1,e2,λb=>?_⟩
     have h3:=e3 b
     rw[ML]at h3
     have h4:=pF b zero v.cells zc.toList p.2.cells.toList off hz.1 OU.1 (by omega)
     have h5:=Le b
     simp only[List.map_cons,bV]
     omega
    ·cases h
theorem zx{fs:Array Field}:∀{ps:List (Nat×Operand)}{qs:List (Nat×Nat)},pE P fs ps qs=true->ps.length=qs.length/\
  ∀(i:Nat) p q,ps[i]?=some p->qs[i]?=some q->∃f,fs[p.1]?=some f/\f.offset=q.1/\cx P f.type q.2=true
 |[],[],_=>⟨rfl,λi p q h _=>by simp at h⟩
 |(j,x)::ps,(off,n)::qs,h=>by
  simp only[pE,Bool.and_eq_true]at h
  obtain⟨h1,h2⟩:=h
  obtain⟨e1,e2⟩:=zx h2
  refine⟨by simp[e1],λi p q hp hq=>?_⟩
  cases i with
  |zero=>
   simp at hp hq
   subst hp;subst hq
   split at h1
   ·rename_i f hf
    simp only[Bool.and_eq_true,beq_iff_eq]at h1
    exact⟨f,hf,h1.1,h1.2⟩
   ·cases h1
  |succ i=>exact e2 i p q (by simpa using hp) (by simpa using hq)
 |[],_::_,h=>by simp[pE]at h
 |_::_,[],h=>by simp[pE]at h
theorem kK{t:TypeId}{zero:List AV}(h:mW P t zero=true)(w:World)(G:aM) :
  ∃i z,P.info? t=some i/\i.zero=some z/\cj w G zero z.cells.toList/\(∀c∈zero,c.bZ=true/\c.an=true)/\AV.aK zero=true:=by
 unfold mW at h
 split at h
 ·rename_i i hi
  split at h
  ·rename_i z hz
   simp only[Bool.and_eq_true]at h
   obtain⟨e1,e2,e3⟩:=w7 w G h.1
   exact⟨i,z,hi,hz,⟨e1,e2⟩,e3,h.2⟩
  ·cases h
 ·cases h
theorem TF{t:TypeId}{parts:Array (Nat×Operand)}(ho:o.op=.build t parts){fs:Array Field}(hu:P.underlying t=some (.struct fs)){is:List TypeInfo}(Dq:fs.toList.mapM (λf=>P.info? f.type)=some is)
  {zero:List AV}{qs:List (Nat×Nat)}(hz:mW P t zero=true)(hp:pE P fs parts.toList qs=true){vs cs:List AV}(hc:ir zero qs vs=some cs)
  (hv:cj w G vs (parts.toList.map λp=>ρ p.2)):∃u,(execOp ρ o).run P w=.ok (.value u) w/\aO w G (.agg cs) u/\∀b,fj b (.agg cs) u<=bV b vs (parts.toList.map λp=>ρ p.2):=by
 obtain⟨i,z,hi,OX,mO,GU,_⟩:=kK hz w G
 obtain⟨OT,hpp⟩:=zx hp
 have TG:fs.toList.mapM (λf=>(P.info? f.type).map λi=>(f.offset,i.size))=some (List.zipWith (λf i=>(f.offset,i.size)) fs.toList is)/\fs.toList.length=is.length/\∀(k:Nat) f j,fs.toList[k]?=some f->is[k]?=some j->P.info? f.type=some j:=by
  generalize fs.toList=l at Dq
  induction l generalizing is with
  |nil=>simp at Dq;subst Dq;exact⟨rfl,rfl,λk f j h _=>by simp at h⟩
  |cons f l ih=>
   rw[List.mapM_cons]at Dq
   simp only[bind,Option.bind_eq_some_iff,pure,Option.some.injEq]at Dq
   obtain⟨j,hj,is',agR,rfl⟩:=Dq
   obtain⟨a1,a2,a3⟩:=ih agR
   refine⟨?_,by simp[a2],λk g j' h1 h2=>?_⟩
   ·rw[List.mapM_cons,a1];simp[hj]
   ·cases k with
    |zero=>simp at h1 h2;subst h1;subst h2;exact hj
    |succ k=>simp at h1 h2;exact a3 k g j' h1 h2
 obtain⟨hm,hlen,agS⟩:=TG
 have E4:(parts.map λ(x:Nat×Operand)=>(x.1,ρ x.2)).toList.map (·.2)=parts.toList.map λp=>ρ p.2:=by simp[Function.comp_def]
 obtain⟨cells,e1,e2,e3⟩:=E3 (place:=((List.zipWith (λ(f:Field) (i:TypeInfo)=>(f.offset,i.size)) fs.toList is).toArray[·]?)) (parts.map λ(x:Nat×Operand)=>(x.1,ρ x.2)).toList qs vs zero cs z.cells hc mO
  (by rw[E4];exact hv) (by
   intro k p q h1 h2
   simp only[Array.toList_map,List.getElem?_map,Option.map_eq_some_iff]at h1
   obtain⟨p',h1,rfl⟩:=h1
   obtain⟨f,g1,g2,g3⟩:=hpp k p' q h1 h2
   obtain⟨j,g4,g5,_⟩:=kj g3
   have hf:fs.toList[p'.1]?=some f:=by simpa using g1
   have hj:is[p'.1]?=some j:=by
    have bn:p'.1<is.length:=by rw[<-hlen];exact(List.getElem?_eq_some_iff.1 hf).1
    have:=agS p'.1 f is[p'.1] hf (List.getElem?_eq_getElem bn)
    rw[g4]at this
    cases this
    exact List.getElem?_eq_getElem bn
   simp[List.getElem?_zipWith,hf,hj,g2,g5])
 have hb:P.built t (parts.map λ(x:Nat×Operand)=>(x.1,ρ x.2)).toList=some cells:=by
  unfold Program.built
  rw[hi,hu]
  simp only[OX,hm]
  exact e1
 refine⟨.agg cells,?_,.agg _ _ (by simpa using e2.1) λi c v h1 h2=>e2.2 i c v h1 (by simpa using h2),λb=>?_⟩
 ·simp only[execOp,ho,Sem.run_bind]
  have:=run_build w t (parts.map λ(x:Nat×Operand)=>(x.1,ρ x.2)) cells hb
  simp only[this,Result.andThen_ok,Sem.run_pure]
 ·have h1:=e3 b
  have h2:bV b zero z.cells.toList=0:=dn b _ _ ((cy zero).2 λc hc=>(GU c hc).1)
  rw[E4]at h1
  simp only[fj]
  omega
end Ax
namespace Ax
open Go
variable {P:Program}{w:World}{G:aM}{β:List lE}{ρ:Operand->Value}{o:Oper}
theorem kq(b off n:Nat):(⟨b,off,none⟩:Addr).add n=⟨b,off+n,none⟩:=by
 unfold Addr.add;split<;>simp_all
theorem GW{t:TypeId}{f:Nat}{fs:Array Field}{fd:Field}{i:TypeInfo}(hu:P.underlying t=some (.struct fs))(hf:fs[f]?=some fd)(hi:P.info? fd.type=some i)(hs:i.size≠0)(a:Addr)(w:World) :
  (Instr.fieldAt t (.pointer (some a)) f).run P w=.ok (.pointer (some (a.add fd.offset))) w:=by
 have hc:P.cellsOf fd.type≠0:=by simp[Program.cellsOf,hi,hs]
 simp[Instr.fieldAt,run_underlying hu,hf,Instr.sureAddr,fieldPlace,run_sizeOf w hi,hc]
theorem tO{t:TypeId}{x:Operand}{f:Nat}(ho:o.op=.fieldAddr t x f){fs:Array Field}{fd:Field}{i:TypeInfo}(hu:P.underlying t=some (.struct fs))(hf:fs[f]?=some fd)(hi:P.info? fd.type=some i)(hs:i.size≠0)
  {a:Addr}(hx:ρ x=.pointer (some a)):(execOp ρ o).run P w=.ok (.value (.pointer (some (a.add fd.offset)))) w:=by
 simp only[execOp,ho,hx,Sem.run_bind,GW hu hf hi hs,Result.andThen_ok,Sem.run_pure]
theorem vV{p:AV}{v:Value}{off:Nat}{q:AV}(h:aO w G p v)
  (hq:(∃id bX i k,p=.ptr id bX i k/\q=.ptr id bX i (k+off))\/(∃sz rows i k,p=.ox sz rows i k/\q=.ox sz rows i (k+off))) :
  ∃a,v=.pointer (some a)/\aO w G q (.pointer (some (a.add off))):=by
 rcases hq with⟨id,bX,i,k,rfl,rfl⟩|⟨sz,rows,i,k,rfl,rfl⟩
 ·cases h with
  |ptr _ _ _ _ _ loc hp hl hv he=>
   obtain⟨a,rfl⟩:=hp
   refine⟨a,rfl,.ptr _ _ _ _ _ loc ⟨_,rfl⟩ hl hv λe=>?_⟩
   obtain⟨a',h1,h2⟩:=he e
   cases h2
   exact⟨a',h1,by rw[kq];congr 3;omega⟩
 ·cases h with
  |ox _ _ _ _ a cap hs=>
   refine⟨_,rfl,?_⟩
   rw[kq]
   have:=aO.ox (w:=w) (G:=G) sz rows i (k+off) a cap hs
   rw[show a.off+(i*sz+k)+off=a.off+(i*sz+(k+off)) by omega]
   exact this
theorem zy{t e:TypeId}{sz:Nat}(hu:P.underlying t=some (.slice e))(eH:cx P e sz=true){a:Addr}{len cap:Nat}{i:Int}(h0:0<=i)(h1:i<len)(w:World) :
  (Instr.indexAt t (.slice (some a) len cap) (.int .i64 i)).run P w=.ok (.pointer (some (a.add (i.toNat*sz)))) w:=by
 simp[Instr.indexAt,run_underlying hu,asIntOf,dK eH,h0,h1]
theorem GX{t e:TypeId}{x y:Operand}{sz:Nat}(ho:o.op=.indexAddr t x y)(hu:P.underlying t=some (.slice e))(eH:cx P e sz=true){st:aj}(hI:iH w G st){a:AV}{i:Int}{bx fm:aU}{bS:aj}{r:eG}
  (h:aL 0 0 (.indexAddr sz) [.val a,.val (.int .i64 i)] st bx=some (r,bS,fm))(ha:aO w G a (ρ x))(hy:ρ y=.int .i64 i) :
  bS=st/\fm=bx/\∃p u,r=.val p/\(execOp ρ o).run P w=.ok (.value u) w/\aO w G p u/\p.bZ=true:=by
 have pure:∀(s:Nat) (rows:List (List AV)) (v:Value),aO w G (.dj s rows) v->ρ x=v->s=sz->0<=i->i<rows.length->
   ∃u,(execOp ρ o).run P w=.ok (.value u) w/\aO w G (.ox sz rows i.toNat 0) u:=by
  intro s rows v hv GS hs h0 h1
  subst hs
  have Dm:=hv
  cases hv with
  |dj _ _ a cap oG fo=>
   refine⟨_,?_,.ox _ rows i.toNat 0 a cap Dm⟩
   simp only[execOp,ho,GS,hy,Sem.run_bind,zy hu eH h0 (by exact_mod_cast h1),Result.andThen_ok,Sem.run_pure]
   obtain⟨b,off,spot⟩:=a
   simp only at oG
   subst oG
   rw[kq]
   simp
 simp only[aL]at h
 split at h<;>try (cases h;done)
 ·rename_i s rows
  split at h
  ·rename_i hc
   cases h
   simp only[Bool.and_eq_true,decide_eq_true_eq]at hc
   obtain⟨u,h1,h2⟩:=pure s rows _ ha rfl hc.1.1 hc.1.2 hc.2
   exact⟨rfl,rfl,_,u,rfl,h1,h2,rfl⟩
  ·cases h
 ·rename_i s rows
  split at h
  ·rename_i hc
   cases h
   simp only[Bool.and_eq_true,decide_eq_true_eq]at hc
   obtain⟨u,h1,h2⟩:=pure s rows _ ha.view rfl hc.1.1 hc.1.2 hc.2
   exact⟨rfl,rfl,_,u,rfl,h1,h2,rfl⟩
  ·cases h
 ·rename_i id bX
  split at h
  ·rename_i v s rows fh
   split at h
   ·rename_i hc
    cases h
    simp only[Bool.and_eq_true,decide_eq_true_eq]at hc
    obtain⟨⟨⟨E5,hs⟩,h0⟩,h1⟩:=hc
    subst E5;subst hs
    obtain⟨loc,hl,TA⟩:=hI.loc fh
    obtain⟨zz,yw,gQ⟩:=TA
    generalize GS:ρ x=xv at ha
    cases ha with
    |mu _ _ _ loc' hp oc hv he=>
     rw[hl]at oc;cases oc
     have hx:=he yw.symm
     rcases gQ.oe with⟨_,qQ,_⟩|⟨b,off,c,e',tg,fo,eS,hle,hlen,gV,dw⟩
     ·subst qQ;simp at h1;omega
     ·rw[tg,gQ.len]at hx
      refine⟨rfl,rfl,_,_,rfl,?_,.ptr id v i.toNat 0 _ loc ⟨_,rfl⟩ hl (by omega) λ_=>⟨_,tg,rfl⟩,rfl⟩
      simp only[execOp,ho,GS,hx,hy,Sem.run_bind,zy hu eH h0 h1,Result.andThen_ok,Sem.run_pure]
      rw[kq,gQ.size]
      simp
   ·cases h
  ·cases h
theorem TH{t:TypeId}{x y:Operand}(ho:o.op=.index t x y)(hu:P.underlying t=some .string){s:List UInt8}{i:Int}{b:UInt8}(h0:0<=i)(hb:s[i.toNat]?=some b)(ha:aO w G (.str s) (ρ x))(hy:ρ y=.int .i64 i) :
  (execOp ρ o).run P w=.ok (.value (.int .u8 b.toNat)) w:=by
 obtain⟨s',hx,rfl⟩:=ha.lB
 have lN:s'[i.toNat]?=some b:=by
  have bn:i.toNat<s'.size:=by have:=(List.getElem?_eq_some_iff.1 hb).1;simpa using this
  have hd:s'.data[i.toNat]?=some b:=by simpa using hb
  have e:s'[i.toNat]?=s'.data[i.toNat]?:=rfl
  rw[e];exact hd
 simp only[execOp,ho,hx,hy,Sem.run_bind]
 simp[Instr.index,run_underlying hu,asIntOf,h0,lN]
theorem GY{st:aj}(hI:iH w G st){p:AV}{v:Value}{n:Nat}{cs:List AV}(hr:fY st p n=some cs)(hp:aO w G p v) :
  ∃b off xs,v=.pointer (some ⟨b,off,none⟩)/\xs.length=n/\cj w G cs xs/\∀(j:Nat) x,xs[j]?=some x->w.cell? ⟨b,off+j,none⟩=some x:=by
 have build:∀(r:List AV) (k b off:Nat),cut r k n=some cs->(∀(j:Nat) c,r[j]?=some c->∃x,w.cell? ⟨b,off+j,none⟩=some x/\aO w G c x)->
   ∃xs:List Value,xs.length=n/\cj w G cs xs/\∀(j:Nat) x,xs[j]?=some x->w.cell? ⟨b,off+k+j,none⟩=some x:=by
  intro r k b off hc mQ
  obtain⟨rfl,hle,hlen⟩:=pG hc
  refine⟨(List.range n).map λj=>(w.cell? ⟨b,off+k+j,none⟩).getD undef,by simp,⟨by simp;omega,λj c x h1 h2=>?_⟩,λj x h=>?_⟩
  ·rw[List.getElem?_take]at h1
   split at h1
   ·rw[List.getElem?_drop]at h1
    obtain⟨y,e1,e2⟩:=mQ _ c h1
    simp only[List.getElem?_map,Option.map_eq_some_iff]at h2
    obtain⟨j',h3,rfl⟩:=h2
    have:j'=j:=by
     rw[List.getElem?_range (by assumption)]at h3;simpa using h3.symm
    subst this
    rw[show off+k+j'=off+(k+j') by omega,e1]
    exact e2
   ·cases h1
  ·simp only[List.getElem?_map,Option.map_eq_some_iff]at h
   obtain⟨j',h3,rfl⟩:=h
   have hj:j<n:=by
    have:=(List.getElem?_eq_some_iff.1 h3).1;simpa using this
   have:j'=j:=by
    rw[List.getElem?_range hj]at h3;simpa using h3.symm
   subst this
   have bn:k+j'<r.length:=by omega
   obtain⟨y,e1,e2⟩:=mQ (k+j') r[k+j'] (List.getElem?_eq_getElem bn)
   rw[show off+k+j'=off+(k+j') by omega,e1]
   rfl
 unfold fY at hr
 split at hr
 ·rename_i id bX i k
  split at hr
  ·rename_i ve sz rows fh
   split at hr
   ·rename_i E5
    subst E5
    split at hr
    ·rename_i r dg
     obtain⟨loc,hl,zz,yw,gQ⟩:=hI.loc fh
     cases hp with
     |ptr _ _ _ _ _ loc' hpp oc hv he=>
      rw[hl]at oc;cases oc
      obtain⟨a,tg,rfl⟩:=he yw.symm
      rcases gQ.oe with⟨_,qQ,_⟩|⟨b,off,c,e',JB,fo,eS,hle,hlen,gV,dw⟩
      ·subst qQ;simp at dg
      ·rw[JB]at tg;cases tg
       obtain⟨xs,h1,h2,h3⟩:=build r k b (off+i*sz) hr (λj c hc=>by
        obtain⟨x,e1,e2⟩:=gQ.cell dw i r j c dg hc
        exact⟨x,by rw[show off+i*sz+j=off+(i*sz+j) by omega];exact e1,e2⟩)
       refine⟨b,off+(i*sz+k),xs,by rw[gQ.size],h1,h2,λj x hx=>?_⟩
       rw[show off+(i*sz+k)+j=off+i*sz+k+j by omega]
       exact h3 j x hx
    ·cases hr
   ·cases hr
  ·cases hr
 ·rename_i sz rows i k
  split at hr
  ·rename_i r dg
   cases hp with
   |ox _ _ _ _ a cap hs=>
    cases hs with
    |dj _ _ _ _ oG fo cm iP nM uK hc yx=>
     obtain⟨xs,h1,h2,h3⟩:=build r k a.block (a.off+i*sz) hr (λj c Om=>by
      obtain⟨_,x,e1⟩:=hc i r j c dg Om
      exact⟨x,by rw[show a.off+i*sz+j=a.off+(i*sz+j) by omega];exact e1,yx i r j c x dg Om e1⟩)
     refine⟨a.block,a.off+(i*sz+k),xs,rfl,h1,h2,λj x hx=>?_⟩
     rw[show a.off+(i*sz+k)+j=a.off+i*sz+k+j by omega]
     exact h3 j x hx
  ·cases hr
 ·cases hr
theorem Bp{t:TypeId}{n:Nat}{agg:Bool}(hn:cx P t n=true)(qP:mh P t=some agg){b off:Nat}{xs:List Value}(hlen:xs.length=n)(kW:agg=false->n=1)
  (hc:∀(j:Nat) x,xs[j]?=some x->w.cell? ⟨b,off+j,none⟩=some x) :
  (Instr.loadAt t (.pointer (some ⟨b,off,none⟩))).run P w=.ok (if agg then .agg xs.toArray else xs.headD undef) w:=by
 cases agg with
 |true=>
  have:=run_loadCells_list (P:=P) w ⟨b,off,none⟩ xs (λj v h=>by rw[kq];exact hc j v h)
  rw[hlen]at this
  simp[Instr.loadAt,Instr.sureAddr,loadVar,wF qP,dK hn,this]
 |false=>
  match xs,hlen,kW rfl with
  |[x],_,_=>
   have:=hc 0 x rfl
   simp only[Nat.add_zero]at this
   simp[Instr.loadAt,Instr.sureAddr,loadVar,wF qP,this]
  |[],h,h1=>simp at h;omega
  |_::_::_,h,h1=>simp at h;omega
theorem cj.view{as:List AV}{xs:List Value}(h:cj w G as xs):cj w G (AV.cL as) xs:=by
 refine⟨by rw[me];exact h.1,λi c v hc hv=>?_⟩
 rw[uL]at hc
 simp only[Option.map_eq_some_iff]at hc
 obtain⟨c',h1,rfl⟩:=hc
 exact(h.2 i c' v h1 hv).view
theorem E6{t:TypeId}{x:Operand}{n:Nat}{agg:Bool}(ho:o.op=.load t x)(hn:cx P t n=true)(qP:mh P t=some agg)(kW:agg=false->n=1){b off:Nat}{xs:List Value}{cs:List AV}{v:AV}
  (hx:ρ x=.pointer (some ⟨b,off,none⟩))(hlen:xs.length=n)(hC:cj w G cs xs)(hc:∀(j:Nat) y,xs[j]?=some y->w.cell? ⟨b,off+j,none⟩=some y)(hv:b9 agg cs=some v) :
  ∃u,(execOp ρ o).run P w=.ok (.value u) w/\aO w G v u/\∀d,fj d v u=bV d cs xs:=by
 obtain⟨u,hu,h1,h2,_⟩:=AF hv hC
 refine⟨u,?_,h1,h2⟩
 simp only[execOp,ho,hx,Sem.run_bind,Bp hn qP hlen kW hc,Result.andThen_ok,Sem.run_pure,hu]
theorem JC{f:FuncId}{first ke:Array Operand}(hf:f<100000)(ho:o.op=.makeFunc (.func f) first ke){vs:List AV}(hv:cj w G vs ((first.toList++ke.toList).map ρ)) :
  (execOp ρ o).run P w=.ok (.value (.func (.func f) (first.map ρ) (ke.map ρ))) w/\
   aO w G (.fn f (AV.cL (vs.take first.size)) (AV.cL (vs.drop first.size))) (.func (.func f) (first.map ρ) (ke.map ρ)):=by
 refine⟨by simp only[execOp,ho,Sem.run_bind];rfl,?_⟩
 have h1:=(hv.take first.size).view
 have h2:=(hv.drop first.size).view
 rw[List.map_append]at h1 h2
 rw[List.take_left' (by simp)]at h1
 rw[List.drop_left' (by simp)]at h2
 refine .fn f _ _ _ _ (by simpa using h1.1) (by simpa using h2.1) ⟨fR _,fR _,hf⟩ (λi c v e1 e2=>h1.2 i c v e1 ?_) (λi c v e1 e2=>h2.2 i c v e1 ?_)
 ·simpa using e2
 ·simpa using e2
end Ax
namespace Ax
open Go
variable {P:Program}{w:World}{G:aM}{β:List lE}{ρ:Operand->Value}{o:Oper}
def wG(ρ:Operand->Value)(x:Option Operand)(XF a:Int):Prop:=(x=none/\a=XF)\/∃y,x=some y/\ρ y=.int .i64 a
theorem mj{i:Int}{y:Nat}{c:BoundsCode}(h0:0<=i)(h1:i<=y)(w:World):(Instr.sliceBound (.int .i64 i) y c).run P w=.ok i.toNat w:=by
 simp[Instr.sliceBound,asIntOf,h0,h1]
theorem jR{tJ:Bool}{len cap:Nat}{lo hi:Option Operand}{a b:Int}(ha:wG ρ lo 0 a)(hb:wG ρ hi len b)(h0:0<=a)(h1:a<=b)(h2:b<=cap)(w:World) :
  (Instr.sliceBounds tJ len cap (lo.map ρ) (hi.map ρ) none).run P w=.ok (a.toNat,b.toNat,cap) w:=by
 rcases ha with⟨rfl,rfl⟩|⟨y,rfl,hy⟩<;>rcases hb with⟨rfl,rfl⟩|⟨z,rfl,hz⟩
 ·simp[Instr.sliceBounds]
 ·simp[Instr.sliceBounds,hz,mj (by omega:(0:Int)<=b) h2]
 ·simp[Instr.sliceBounds,hy,mj h0 h1]
 ·have hbn:((b.toNat:Nat):Int)=b:=by omega
  simp[Instr.sliceBounds,hy,hz,mj (by omega:(0:Int)<=b) h2,mj h0 (by rw[hbn];exact h1)]
theorem JD{t:TypeId}{x:Operand}{lo hi:Option Operand}(ho:o.op=.slice t x lo hi none)(hu:P.underlying t=some .string){s:List UInt8}{a b:Int}(hx:aO w G (.str s) (ρ x))
  (ha:wG ρ lo 0 a)(hb:wG ρ hi s.length b)(h0:0<=a)(h1:a<=b)(h2:b<=s.length) :
  ∃u,(execOp ρ o).run P w=.ok (.value u) w/\aO w G (.str ((s.take b.toNat).drop a.toNat)) u:=by
 obtain⟨s',Wg,rfl⟩:=hx.lB
 have hl:s'.data.toList.length=s'.size:=by simp
 rw[hl]at hb h2
 refine⟨.string (s'.extract a.toNat b.toNat),?_,.str _ _ ?_⟩
 ·simp only[execOp,ho,Wg,Sem.run_bind]
  simp[Instr.sliceAt,Instr.slice,run_underlying hu,jR ha hb h0 h1 h2]
 ·rw[ByteArray.data_extract,Array.toList_extract]
  simp only[List.extract]
  rw[List.drop_take]
theorem MM{sz:Nat}{rows:List (List AV)}(h:bU sz rows=true)(n m:Nat):bU sz ((rows.take n).drop m)=true:=by
 simp only[bU,List.all_eq_true]at h ⊢
 exact λr hr=>h r (List.mem_of_mem_take (List.mem_of_mem_drop hr))
theorem Lg{rows:List (List AV)}{n m i:Nat}{r:List AV}(h:((rows.take n).drop m)[i]?=some r):rows[m+i]?=some r:=by
 rw[List.getElem?_drop,List.getElem?_take]at h
 split at h
 ·exact h
 ·cases h
theorem TI{sz:Nat}{rows:List (List AV)}{a:Addr}{len cap:Nat}(h:aO w G (.dj sz rows) (.slice (some a) len cap)){lo hi:Nat}(h1:lo<=hi)(h2:hi<=rows.length) :
  len=rows.length/\rows.length<=cap/\aO w G (.dj sz ((rows.take hi).drop lo)) (.slice (if cap=lo then some a else some (a.add (lo*sz))) (hi-lo) (cap-lo)):=by
 cases h with
 |dj _ _ _ _ oG fo cm iP nM uK hc hr=>
  refine⟨rfl,fo,?_⟩
  have hlen:((rows.take hi).drop lo).length=hi-lo:=by simp;omega
  have yF:∀r∈(rows.take hi).drop lo,r∈rows:=λr hr=>List.mem_of_mem_take (List.mem_of_mem_drop hr)
  have MN:a.add (lo*sz)=⟨a.block,a.off+lo*sz,none⟩:=by
   obtain⟨b,off,spot⟩:=a
   simp only at oG;subst oG
   exact kq _ _ _
  split
  ·rename_i TE
   have:(rows.take hi).drop lo=[]:=by apply List.eq_nil_of_length_eq_zero;omega
   rw[this]
   have h0:hi-lo=([]:List (List AV)).length:=by simp;omega
   rw[h0]
   exact .dj _ _ a _ oG (by simp) (by simp[bU]) (by simp) (by simp) (by simp) (λi r j c h _=>by simp at h) (λi r j c v h _=>by simp at h)
  ·rw[<-hlen]
   refine .dj _ _ _ _ (by rw[MN]) (by omega) (MM cm _ _) (λr h=>iP r (yF r h)) (λr h=>nM r (yF r h)) (λr h=>uK r (yF r h)) (λi r j c e1 e2=>?_) (λi r j c v e1 e2 e3=>?_)
   ·have:=hc _ r j c (Lg e1) e2
    rw[MN]
    simp only
    rw[show a.off+lo*sz+(i*sz+j)=a.off+((lo+i)*sz+j) by rw[Nat.add_mul];omega]
    exact this
   ·rw[MN]at e3
    simp only at e3
    rw[show a.off+lo*sz+(i*sz+j)=a.off+((lo+i)*sz+j) by rw[Nat.add_mul];omega]at e3
    exact hr _ r j c v (Lg e1) e2 e3
theorem Bq{t e:TypeId}{x:Operand}{lo hi:Option Operand}(ho:o.op=.slice t x lo hi none)(hu:P.underlying t=some (.slice e)){sz:Nat}(eH:cx P e sz=true){rows:List (List AV)}{a b:Int}(hx:aO w G (.dj sz rows) (ρ x))
  (ha:wG ρ lo 0 a)(hb:wG ρ hi rows.length b)(h0:0<=a)(h1:a<=b)(h2:b<=rows.length) :
  ∃u,(execOp ρ o).run P w=.ok (.value u) w/\aO w G (.dj sz ((rows.take b.toNat).drop a.toNat)) u:=by
 have hx0:=hx
 generalize GS:ρ x=xv at hx
 have hs:∃ad len cap,xv=.slice (some ad) len cap:=by cases hx;exact⟨_,_,_,rfl⟩
 obtain⟨ad,len,cap,rfl⟩:=hs
 obtain⟨e1,e2,e3⟩:=TI hx (lo:=a.toNat) (hi:=b.toNat) (by omega) (by omega)
 subst e1
 refine⟨_,?_,e3⟩
 simp only[execOp,ho,GS,Sem.run_bind]
 simp only[Instr.sliceAt,Sem.run_bind,run_underlying hu,Result.andThen_ok,Instr.slice,Option.map_none,jR ha hb h0 h1 (by omega:b<=(cap:Int)),dK eH,Sem.run_pure]
 by_cases hc:cap=a.toNat<;>simp[hc]
theorem Br{t e:TypeId}{x:Operand}{lo hi mx:Option Operand}(ho:o.op=.slice t x lo hi mx)(hu:P.underlying t=some (.slice e)){sz:Nat}(eH:cx P e sz=true)(hx:aO w G .U (ρ x))
  (ha:wG ρ lo 0 0)(hb:wG ρ hi 0 0)(hm:mx=none\/∃z,mx=some z/\hi.isSome=true/\ρ z=.int .i64 0) :
  (execOp ρ o).run P w=.ok (.value (.slice none 0 0)) w:=by
 generalize GS:ρ x=xv at hx
 cases hx
 simp only[execOp,ho,GS,Sem.run_bind]
 rcases hm with rfl|⟨z,rfl,hh,hz⟩
 ·have lN:wG ρ hi ((0:Nat):Int) 0:=hb
  simp only[Instr.sliceAt,Sem.run_bind,run_underlying hu,Result.andThen_ok,Instr.slice,Option.map_none,jR (len:=0) (cap:=0) ha lN (by omega) (by omega) (by simp),dK eH,Sem.run_pure]
  simp
 ·have key:(Instr.sliceBounds true 0 0 (lo.map ρ) (hi.map ρ) (some (ρ z))).run P w=.ok (0,0,0) w:=by
   rcases ha with⟨rfl,_⟩|⟨y,rfl,hy⟩<;>rcases hb with⟨rfl,_⟩|⟨y',rfl,Wh⟩
   ·simp at hh
   ·simp[Instr.sliceBounds,hz,Wh,Instr.sliceBound,asIntOf]
   ·simp at hh
   ·simp[Instr.sliceBounds,hz,hy,Wh,Instr.sliceBound,asIntOf]
  simp only[Instr.sliceAt,Sem.run_bind,run_underlying hu,Result.andThen_ok,Instr.slice,Option.map_some,key,dK eH,Sem.run_pure]
  simp
theorem zA{t e:TypeId}{x:Operand}{lo hi mx:Option Operand}(ho:o.op=.slice t x lo hi mx)(hu:P.underlying t=some (.slice e)){sz:Nat}(eH:cx P e sz=true)(hx:aO w G .kV (ρ x))
  (ha:wG ρ lo 0 0)(hb:wG ρ hi 0 0)(hm:mx=none\/∃z,mx=some z/\hi.isSome=true/\ρ z=.int .i64 0) :
  ∃u,(execOp ρ o).run P w=.ok (.value u) w/\aO w G .kV u:=by
 generalize GS:ρ x=xv at hx
 obtain⟨ad,rfl⟩:∃ad,xv=.slice (some ad) 0 0:=by cases hx;exact⟨_,rfl⟩
 refine⟨_,?_,.kV ad⟩
 simp only[execOp,ho,GS,Sem.run_bind]
 rcases hm with rfl|⟨z,rfl,hh,hz⟩
 ·have lN:wG ρ hi ((0:Nat):Int) 0:=hb
  simp only[Instr.sliceAt,Sem.run_bind,run_underlying hu,Result.andThen_ok,Instr.slice,Option.map_none,jR (len:=0) (cap:=0) ha lN (by omega) (by omega) (by simp),dK eH,Sem.run_pure]
  simp
 ·have key:(Instr.sliceBounds true 0 0 (lo.map ρ) (hi.map ρ) (some (ρ z))).run P w=.ok (0,0,0) w:=by
   rcases ha with⟨rfl,_⟩|⟨y,rfl,hy⟩<;>rcases hb with⟨rfl,_⟩|⟨y',rfl,Wh⟩
   ·simp at hh
   ·simp[Instr.sliceBounds,hz,Wh,Instr.sliceBound,asIntOf]
   ·simp at hh
   ·simp[Instr.sliceBounds,hz,hy,Wh,Instr.sliceBound,asIntOf]
  simp only[Instr.sliceAt,Sem.run_bind,run_underlying hu,Result.andThen_ok,Instr.slice,Option.map_some,key,dK eH,Sem.run_pure]
  simp
theorem Bs{t e:TypeId}{x z:Operand}{lo hi:Option Operand}(ho:o.op=.slice t x lo hi (some z))(hu:P.underlying t=some (.slice e)){sz s:Nat}(eH:cx P e sz=true){rows:List (List AV)}(hx:aO w G (.dj s rows) (ρ x))
  (ha:wG ρ lo 0 0)(hb:wG ρ hi rows.length 0)(hh:hi.isSome=true)(hz:ρ z=.int .i64 0) :
  ∃u,(execOp ρ o).run P w=.ok (.value u) w/\aO w G .kV u:=by
 generalize GS:ρ x=xv at hx
 have hs:∃ad len cap,xv=.slice (some ad) len cap:=by cases hx;exact⟨_,_,_,rfl⟩
 obtain⟨ad,len,cap,rfl⟩:=hs
 refine⟨_,?_,.kV ad⟩
 have key:(Instr.sliceBounds true len cap (lo.map ρ) (hi.map ρ) (some (ρ z))).run P w=.ok (0,0,0) w:=by
  rcases ha with⟨rfl,_⟩|⟨y,rfl,hy⟩<;>rcases hb with⟨rfl,_⟩|⟨y',rfl,Wh⟩
  ·simp at hh
  ·simp[Instr.sliceBounds,hz,Wh,Instr.sliceBound,asIntOf]
  ·simp at hh
  ·simp[Instr.sliceBounds,hz,hy,Wh,Instr.sliceBound,asIntOf]
 simp only[execOp,ho,GS,Sem.run_bind]
 simp only[Instr.sliceAt,Sem.run_bind,run_underlying hu,Result.andThen_ok,Instr.slice,Option.map_some,key,dK eH,Sem.run_pure]
 simp
theorem run_checkKey{t:TypeId}{kk:SK}(ht:nN P t kk=true)(b:Bool)(n:Nat)(v:Value)(w:World):(Instr.checkKey b (n+1) t v).run P w=.ok () w:=by
 unfold nN at ht
 cases kk<;>simp only at ht<;>split at ht<;>(try cases ht)
 all_goals (rename_i hu;simp[Instr.checkKey,run_underlying hu])
def wH(w:World)(G:aM)(es:List (AV×AV))(fs:List MapEntry):Prop:=
 fs.length=es.length/\∀(i:Nat) k v e,es[i]?=some (k,v)->fs[i]?=some e->aO w G k e.key/\aO w G v e.val/\v.bZ=true/\k.bZ=true
theorem wH.tail{x:AV×AV}{es:List (AV×AV)}{f:MapEntry}{fs:List MapEntry}(h:wH w G (x::es) (f::fs)):wH w G es fs:=
 ⟨by have:=h.1;simpa using this,λi k v e h1 h2=>h.2 (i+1) k v e (by simpa using h1) (by simpa using h2)⟩
theorem rS{t:TypeId}{d:TypeDesc}{kk:SK}(ht:nN P t kk=true)(hu:P.underlying t=some d){a b:AV}{x y:Value}{r:Bool}(h:Dk kk a b=some r)(ha:aO w G a x)(hb:aO w G b y):Instr.sameNow d x y=some r:=by
 unfold Dk at h
 split at h
 ·cases h
  rw[ha.jm,hb.jm]
  simp only[nN,hu]at ht
  split at ht
  ·rename_i hd;cases hd;rfl
  ·cases ht
 ·split at h
  ·rename_i k p l q hk
   cases h
   subst hk
   rw[ha.fD,hb.fD]
   simp only[nN,hu]at ht
   split at ht
   ·rename_i hd;cases hd;simp[Instr.sameNow]
   ·cases ht
  ·cases h
 ·cases h
  obtain⟨s,rfl,rfl⟩:=ha.lB
  obtain⟨s',rfl,rfl⟩:=hb.lB
  simp only[nN,hu]at ht
  split at ht
  ·rename_i hd;cases hd
   simp only[Instr.sameNow,Option.some.injEq]
   rw[beq_toListBytes,ByteArray.toList_eq,ByteArray.toList_eq]
  ·cases ht
 ·cases h
theorem rT{t:TypeId}{d:TypeDesc}{kk:SK}(ht:nN P t kk=true)(hu:P.underlying t=some d){k:AV}{x:Value}(hk:aO w G k x):∀(es:List (AV×AV))(fs:List MapEntry)(i:Nat)(r:Option AV),
  wH w G es fs->qi kk k es=some r->∃q,Instr.findNow d x fs i=some q/\
   (match r with
    |none=>q=none
    |some v=>∃j e,q=some (i+j,e.val)/\fs[j]?=some e/\aO w G v e.val/\v.bZ=true)
 |[],[],i,r,_,h=>by simp[qi]at h;subst h;exact⟨none,rfl,rfl⟩
 |[],_::_,_,_,h,_=>by simp[wH]at h
 |_::_,[],_,_,h,_=>by simp[wH]at h
 |(a,v)::es,f::fs,i,r,hM,h=>by
  obtain⟨h1,h2,h3,_⟩:=hM.2 0 a v f rfl rfl
  simp only[qi]at h
  split at h
  ·rename_i he
   cases h
   exact⟨some (i,f.val),by simp[Instr.findNow,rS ht hu he hk h1],0,f,rfl,rfl,h2,h3⟩
  ·rename_i he
   obtain⟨q,e1,e2⟩:=rT ht hu hk es fs (i+1) r hM.tail h
   refine⟨q,by simp[Instr.findNow,rS ht hu he hk h1,e1],?_⟩
   cases r with
   |none=>exact e2
   |some v'=>
    obtain⟨j,e,g1,g2,g3⟩:=e2
    exact⟨j+1,e,by rw[g1,show i+1+j=i+(j+1) by omega],by simpa using g2,g3⟩
  ·cases h
theorem run_findKey{t:TypeId}{kk:SK}(ht:nN P t kk=true){k:AV}{x:Value}(hk:aO w G k x){es:List (AV×AV)}{fs:List MapEntry}{r:Option AV}(hM:wH w G es fs)(hf:qi kk k es=some r)(w':World) :
  ∃q,(Instr.findKey t x fs).run P w'=.ok q w'/\
   (match r with
    |none=>q=none
    |some v=>∃j e,q=some (j,e.val)/\fs[j]?=some e/\aO w G v e.val/\v.bZ=true):=by
 have hu:∃d,P.underlying t=some d:=by
  unfold nN at ht
  cases kk<;>simp only at ht<;>split at ht<;>(try cases ht)<;>exact⟨_,by assumption⟩
 obtain⟨d,hu⟩:=hu
 obtain⟨q,e1,e2⟩:=rT ht hu hk es fs 0 r hM hf
 refine⟨q,by simp[Instr.findKey,run_underlying hu,e1],?_⟩
 cases r with
 |none=>exact e2
 |some v=>obtain⟨j,e,g1,g2⟩:=e2;exact⟨j,e,by simpa using g1,g2⟩
theorem OY{t kt et:TypeId}{m k:Operand}{ok:Bool}(ho:o.op=.lookup t m k ok)(hu:P.underlying t=some (.map kt et)){kk:SK}(ht:nN P kt kk=true){ie:TypeInfo}{z:Value}(hie:P.info? et=some ie)(hz:ie.zero=some z){zero:AV}(On:uN z zero=true)
  {st:aj}(hI:iH w G st){am ak:AV}{es:List (AV×AV)}(qe:(am=.fG/\es=[])\/∃id,am=.map id/\st[id]?=some (.map es)){r:Option AV}(hf:qi kk ak es=some r)(hm:aO w G am (ρ m))(hk:aO w G ak (ρ k)) :
  ∃u,(execOp ρ o).run P w=.ok (.value u) w/\aO w G (if ok then .fK [r.getD zero,.bool r.isSome] else r.getD zero) u/\(r.getD zero).bZ=true:=by
 obtain⟨hz1,hz2,_⟩:=wD On w G
 have hzv:(zeroValue et).run P w=.ok z w:=by simp[zeroValue,typeInfo,hie,hz]
 have two:∀(v:AV) (x:Value) (b:Bool),aO w G v x->aO w G (if ok then .fK [v,.bool b] else v) (if ok=true then Value.tuple #[x,.bool b] else x):=by
  intro v x b hv
  cases ok
  ·exact hv
  ·refine .fK _ _ rfl λi c y h1 h2=>?_
   match i with
   |0=>simp at h1 h2;subst h1;subst h2;exact hv
   |1=>simp at h1 h2;subst h1;subst h2;exact .bool _
   |i+2=>simp at h1
 have kJ:∀(fs:Array MapEntry),wH w G es fs.toList->∃x b,aO w G (r.getD zero) x/\b=r.isSome/\(r.getD zero).bZ=true/\∃q,(Instr.findKey kt (ρ k) fs.toList).run P w=.ok q w/\((∃j,q=some (j,x)/\b=true)\/(q=none/\x=z/\b=false)):=by
  intro fs hM
  obtain⟨q,e1,e2⟩:=run_findKey ht hk hM hf w
  cases r with
  |none=>exact⟨z,false,hz1,rfl,hz2,q,e1,.inr ⟨e2,rfl,rfl⟩⟩
  |some v=>
   obtain⟨j,e,g1,g2,g3,g4⟩:=e2
   exact⟨e.val,true,g3,rfl,g4,q,e1,.inl ⟨j,g1,rfl⟩⟩
 rcases qe with⟨rfl,rfl⟩|⟨id,rfl,fh⟩
 ·generalize hmv:ρ m=mv at hm
  cases hm
  obtain⟨x,b,h1,rfl,h3,q,h4,h5⟩:=kJ #[] ⟨rfl,λi k v e h _=>by simp at h⟩
  refine⟨_,?_,two _ _ _ h1,h3⟩
  have hck:=run_checkKey (w:=w) ht (#[]:Array MapEntry).isEmpty 9999 (ρ k)
  simp only[execOp,ho,hmv,Sem.run_bind]
  simp only[Instr.lookup,Sem.run_bind,run_underlying hu,Result.andThen_ok,Sem.run_pure,hck,h4]
  rcases h5 with⟨j,rfl,hb⟩|⟨rfl,rfl,hb⟩
  ·simp[hb]
  ·simp[hb,hzv]
 ·generalize hmv:ρ m=mv at hm
  obtain⟨loc,hl,TA⟩:=hI.loc fh
  cases hm with
  |map _ loc' bk oc zz lN=>
   rw[hl]at oc;cases oc
   obtain⟨g1,g2,b0,tK,clock,g3,g4,g5,g6,g7⟩:=TA
   rw[lN]at g3;cases g3
   obtain⟨x,b,h1,rfl,h3,q,h4,h5⟩:=kJ tK ⟨by simpa using g6,λi k v e e1 e2=>g7 i k v e e1 (by simpa using e2)⟩
   refine⟨_,?_,two _ _ _ h1,h3⟩
   have hck:=run_checkKey (w:=w) ht tK.isEmpty 9999 (ρ k)
   have TJ:(getObj bk).run P w=.ok (.map tK clock) w:=by simp[getObj,Sem.run,g4]
   simp only[execOp,ho,hmv,Sem.run_bind]
   simp only[Instr.lookup,Sem.run_bind,run_underlying hu,Result.andThen_ok,Sem.run_pure,TJ,hck,h4]
   rcases h5 with⟨j,rfl,hb⟩|⟨rfl,rfl,hb⟩
   ·simp[hb]
   ·simp[hb,hzv]
end Ax
namespace Ax
open Go
variable {P:Program}{w w':World}{G G':aM}{β:List lE}
def j9.jl(l:j9):Option Nat:=if l.cap=0 then none else l.a.map (·.block)
def fz(b:Nat):List (List AV)->List (List Value)->Nat
 |r::rs,x::xs=>bV b r x+fz b rs xs
 |_,_=>0
def gX(b:Nat)(loc:j9):fL->Nat
 |.rows _ _ rows=>(if loc.jl=some b then 1 else 0)+fz b rows loc.vals
 |.map _=>if loc.jl=some b then 1 else 0
def b6(b:Nat):List j9->List fL->Nat
 |l::ls,o::st=>gX b l o+b6 b ls st
 |_,_=>0
def fM(b:Nat):List lE->List (List AV)->Nat
 |g::β,r::bx=>(if g.jl=some b then 1 else 0)+bV b r g.vals+fM b β bx
 |_,_=>0
theorem uU(b:Nat):∀(rs:List (List AV))(xs:List (List Value))(i:Nat) r x,rs[i]?=some r->xs[i]?=some x->bV b r x<=fz b rs xs
 |[],_,_,_,_,h,_=>by simp at h
 |_::_,[],_,_,_,_,h=>by simp at h
 |r::rs,x::xs,0,r',x',h,k=>by simp at h k;subst h;subst k;simp only[fz];omega
 |r::rs,x::xs,i+1,r',x',h,k=>by
  have:=uU b rs xs i r' x' (by simpa using h) (by simpa using k)
  simp only[fz];omega
theorem rq(b:Nat):∀(rs:List (List AV))(xs:List (List Value))(i:Nat) r x r' x',rs[i]?=some r->xs[i]?=some x->
  fz b (rs.set i r') (xs.set i x')+bV b r x=fz b rs xs+bV b r' x'
 |[],_,_,_,_,_,_,h,_=>by simp at h
 |_::_,[],_,_,_,_,_,_,h=>by simp at h
 |r::rs,x::xs,0,r1,x1,r',x',h,k=>by simp at h k;subst h;subst k;simp only[List.set_cons_zero,fz];omega
 |r::rs,x::xs,i+1,r1,x1,r',x',h,k=>by
  have:=rq b rs xs i r1 x1 r' x' (by simpa using h) (by simpa using k)
  simp only[List.set_cons_succ,fz];omega
theorem zC(b:Nat):∀(rs:List (List AV))(xs:List (List Value)),(∀r∈rs,AV.dH r=true)->fz b rs xs=0
 |[],_,_=>by simp[fz]
 |_::_,[],_=>by simp[fz]
 |r::rs,x::xs,h=>by
  simp only[fz,dn b r x (h r (by simp)),zC b rs xs λr' hr=>h r' (by simp[hr])]
theorem mm(b:Nat):∀(ls:List j9)(st:List fL)(i:Nat) l o,ls[i]?=some l->st[i]?=some o->gX b l o<=b6 b ls st
 |[],_,_,_,_,h,_=>by simp at h
 |_::_,[],_,_,_,_,h=>by simp at h
 |l::ls,o::st,0,l',o',h,k=>by simp at h k;subst h;subst k;simp only[b6];omega
 |l::ls,o::st,i+1,l',o',h,k=>by
  have:=mm b ls st i l' o' (by simpa using h) (by simpa using k)
  simp only[b6];omega
theorem GZ(b:Nat):∀(ls:List j9)(st:List fL)(i j:Nat) l o l' o',i≠j->ls[i]?=some l->st[i]?=some o->ls[j]?=some l'->st[j]?=some o'->gX b l o+gX b l' o'<=b6 b ls st
 |[],_,_,_,_,_,_,_,_,h,_,_,_=>by simp at h
 |_::_,[],_,_,_,_,_,_,_,_,h,_,_=>by simp at h
 |l::ls,o::st,0,0,_,_,_,_,h,_,_,_,_=>absurd rfl h
 |l::ls,o::st,0,j+1,l1,o1,l2,o2,_,h1,h2,h3,h4=>by
  simp at h1 h2;subst h1;subst h2
  have:=mm b ls st j l2 o2 (by simpa using h3) (by simpa using h4)
  simp only[b6];omega
 |l::ls,o::st,i+1,0,l1,o1,l2,o2,_,h1,h2,h3,h4=>by
  simp at h3 h4;subst h3;subst h4
  have:=mm b ls st i l1 o1 (by simpa using h1) (by simpa using h2)
  simp only[b6];omega
 |l::ls,o::st,i+1,j+1,l1,o1,l2,o2,h,h1,h2,h3,h4=>by
  have:=GZ b ls st i j l1 o1 l2 o2 (by omega) (by simpa using h1) (by simpa using h2) (by simpa using h3) (by simpa using h4)
  simp only[b6];omega
theorem tP(b:Nat):∀(ls:List j9)(st:List fL)(i:Nat) l o l' o',ls[i]?=some l->st[i]?=some o->
  b6 b (ls.set i l') (st.set i o')+gX b l o=b6 b ls st+gX b l' o'
 |[],_,_,_,_,_,_,h,_=>by simp at h
 |_::_,[],_,_,_,_,_,_,h=>by simp at h
 |l::ls,o::st,0,l1,o1,l2,o2,h,k=>by simp at h k;subst h;subst k;simp only[List.set_cons_zero,b6];omega
 |l::ls,o::st,i+1,l1,o1,l2,o2,h,k=>by
  have:=tP b ls st i l1 o1 l2 o2 (by simpa using h) (by simpa using k)
  simp only[List.set_cons_succ,b6];omega
theorem qt(b:Nat):∀(ls ls':List j9)(st bS:List fL),ls.length=st.length->b6 b (ls++ls') (st++bS)=b6 b ls st+b6 b ls' bS
 |[],_,[],_,_=>by simp[b6]
 |[],_,_::_,_,h=>by simp at h
 |_::_,_,[],_,h=>by simp at h
 |l::ls,ls',o::st,bS,h=>by
  simp only[List.cons_append,b6]
  rw[qt b ls ls' st bS (by simpa using h)];omega
theorem mo(b:Nat):∀(β:List lE)(bx:List (List AV))(i:Nat) g r,β[i]?=some g->bx[i]?=some r->(if g.jl=some b then 1 else 0)+bV b r g.vals<=fM b β bx
 |[],_,_,_,_,h,_=>by simp at h
 |_::_,[],_,_,_,_,h=>by simp at h
 |g::β,r::bx,0,g',r',h,k=>by simp at h k;subst h;subst k;simp only[fM];omega
 |g::β,r::bx,i+1,g',r',h,k=>by
  have:=mo b β bx i g' r' (by simpa using h) (by simpa using k)
  simp only[fM];omega
theorem xd(b:Nat):∀(β:List lE)(bx:List (List AV))(i:Nat) g r g' r',β[i]?=some g->bx[i]?=some r->
  fM b (β.set i g') (bx.set i r')+((if g.jl=some b then 1 else 0)+bV b r g.vals)=fM b β bx+((if g'.jl=some b then 1 else 0)+bV b r' g'.vals)
 |[],_,_,_,_,_,_,h,_=>by simp at h
 |_::_,[],_,_,_,_,_,_,h=>by simp at h
 |g::β,r::bx,0,g1,r1,g2,r2,h,k=>by simp at h k;subst h;subst k;simp only[List.set_cons_zero,fM];omega
 |g::β,r::bx,i+1,g1,r1,g2,r2,h,k=>by
  have:=xd b β bx i g1 r1 g2 r2 (by simpa using h) (by simpa using k)
  simp only[List.set_cons_succ,fM];omega
theorem G4(b:Nat):∀(β:List lE)(bx:List (List AV))(i j:Nat) g r g' r',i≠j->β[i]?=some g->bx[i]?=some r->β[j]?=some g'->bx[j]?=some r'->
  ((if g.jl=some b then 1 else 0)+bV b r g.vals)+((if g'.jl=some b then 1 else 0)+bV b r' g'.vals)<=fM b β bx
 |[],_,_,_,_,_,_,_,_,h,_,_,_=>by simp at h
 |_::_,[],_,_,_,_,_,_,_,_,h,_,_=>by simp at h
 |l::ls,o::st,0,0,_,_,_,_,h,_,_,_,_=>absurd rfl h
 |l::ls,o::st,0,j+1,l1,o1,l2,o2,_,h1,h2,h3,h4=>by
  simp at h1 h2;subst h1;subst h2
  have:=mo b ls st j l2 o2 (by simpa using h3) (by simpa using h4)
  simp only[fM];omega
 |l::ls,o::st,i+1,0,l1,o1,l2,o2,_,h1,h2,h3,h4=>by
  simp at h3 h4;subst h3;subst h4
  have:=mo b ls st i l1 o1 (by simpa using h1) (by simpa using h2)
  simp only[fM];omega
 |l::ls,o::st,i+1,j+1,l1,o1,l2,o2,h,h1,h2,h3,h4=>by
  have:=G4 b ls st i j l1 o1 l2 o2 (by omega) (by simpa using h1) (by simpa using h2) (by simpa using h3) (by simpa using h4)
  simp only[fM];omega
structure xg (w:World)(G:aM)(row:List AV)(g:lE):Prop where
 lC:cj w G row g.vals
 AE:AV.aK row=true
 oe:(g.jl=none/\row=[])\/∃b c e,g.jl=some b/\w.heap[b]?=some (.cells c e (0,0))/\row.length<=c.size/\G.kR b=some 0/\∀(k:Nat) x,g.vals[k]?=some x->w.cell? ⟨b,k,none⟩=some x
structure jD (w:World)(G:aM)(β:List lE)(bx:aU):Prop where
 len:β.length=bx.length
 box:∀(j:Nat) row g,bx[j]?=some row->β[j]?=some g->xg w G row g
def dL(w:World)(G:aM)(w':World)(G':aM)(b:Nat):Prop:=G'.kR b=G.kR b/\w'.heap[b]?=w.heap[b]?
theorem oH{b o:Nat}(h:w'.heap[b]?=w.heap[b]?):w'.cell? ⟨b,o,none⟩=w.cell? ⟨b,o,none⟩:=by simp[World.cell?,h]
theorem xg.iR{row:List AV}{g:lE}(h:xg w G row g)(hs:qq w G w' G')(hf:∀b,0<(if g.jl=some b then 1 else 0)+bV b row g.vals->dL w G w' G' b):xg w' G' row g where
 lC:=h.lC.mono hs λb hb=>hf b (by omega)
 AE:=h.AE
 oe:=by
  rcases h.oe with h|⟨b,c,e,h1,h2,h3,h4,h5⟩
  ·exact .inl h
  ·obtain⟨a1,a2⟩:=hf b (by simp[h1];omega)
   exact .inr ⟨b,c,e,h1,a2.trans h2,h3,a1.trans h4,λk x hx=>(oH a2).trans (h5 k x hx)⟩
theorem og.iR{ob:fL}{loc:j9}(h:og w G ob loc)(hs:qq w G w' G')(hf:∀b,0<gX b loc ob->dL w G w' G' b):og w' G' ob loc:=by
 cases ob with
 |rows bX sz rows=>
  obtain⟨h1,h2,h3⟩:=h
  refine⟨h1,h2,h3.Dp,h3.AE,h3.len,h3.size,h3.qO,λi r xs e1 e2=>?_,?_⟩
  ·refine(h3.rm i r xs e1 e2).mono hs λb hb=>hf b ?_
   have:=uU b rows loc.vals i r xs e1 e2
   simp only[gX];omega
  ·rcases h3.oe with h|⟨b,off,c,e,g1,g2,g3,g4,g5,g6,g7⟩
   ·exact .inl h
   ·obtain⟨a1,a2⟩:=hf b (by
     have:loc.jl=some b:=by unfold j9.jl;rw[if_neg (by omega),g1];rfl
     simp[gX,this];omega)
    exact .inr ⟨b,off,c,e,g1,g2,a2.trans g3,g4,g5,a1.trans g6,λi xs j x e1 e2=>(oH a2).trans (g7 i xs j x e1 e2)⟩
 |map es=>
  obtain⟨h1,h2,b,tK,clock,h3,h4,h5,h6,h7⟩:=h
  obtain⟨a1,a2⟩:=hf b (by
   have:loc.jl=some b:=by unfold j9.jl;rw[if_neg (by omega),h3];rfl
   simp[gX,this])
  refine⟨h1,h2,b,tK,clock,h3,a2.trans h4,a1.trans h5,h6,λi k v e e1 e2=>?_⟩
  obtain⟨g1,g2,g3,g4⟩:=h7 i k v e e1 e2
  exact⟨g1.iR hs λb hb=>by rw[eJ b k _ g4]at hb;omega,g2.iR hs λb hb=>by rw[eJ b v _ g3]at hb;omega,g3,g4⟩
theorem aO.held{a:AV}{v:Value}{b:Nat}(h:aO w G a v):0<fj b a v->b<w.heap.size:=by
 induction h with
 |agg cs vs hl h ih=>
  intro hb
  simp only[fj]at hb
  have key:∀(cs:List AV) (vs:List Value),0<bV b cs vs->∃(i:Nat) (c:AV) (v:Value),cs[i]?=some c/\vs[i]?=some v/\0<fj b c v:=by
   intro cs
   induction cs with
   |nil=>intro vs h;rw[Bo]at h;omega
   |cons c cs ih=>
    intro vs h
    cases vs with
    |nil=>simp[bV]at h
    |cons v vs=>
     simp only[bV]at h
     by_cases hc:0<fj b c v
     ·exact⟨0,c,v,rfl,rfl,hc⟩
     ·obtain⟨i,c',v',e1,e2,e3⟩:=ih vs (by omega)
      exact⟨i+1,c',v',by simpa using e1,by simpa using e2,e3⟩
  obtain⟨i,c,v,e1,e2,e3⟩:=key cs vs.toList hb
  exact ih i c v e1 (by simpa using e2) e3
 |fK cs vs hl h ih=>
  intro hb
  simp only[fj]at hb
  have key:∀(cs:List AV) (vs:List Value),0<bV b cs vs->∃(i:Nat) (c:AV) (v:Value),cs[i]?=some c/\vs[i]?=some v/\0<fj b c v:=by
   intro cs
   induction cs with
   |nil=>intro vs h;rw[Bo]at h;omega
   |cons c cs ih=>
    intro vs h
    cases vs with
    |nil=>simp[bV]at h
    |cons v vs=>
     simp only[bV]at h
     by_cases hc:0<fj b c v
     ·exact⟨0,c,v,rfl,rfl,hc⟩
     ·obtain⟨i,c',v',e1,e2,e3⟩:=ih vs (by omega)
      exact⟨i+1,c',v',by simpa using e1,by simpa using e2,e3⟩
  obtain⟨i,c,v,e1,e2,e3⟩:=key cs vs.toList hb
  exact ih i c v e1 (by simpa using e2) e3
 |je sz rows a cap oG fo cm iP nM uK hc hr gV ff ih=>
  intro hb
  simp only[fj]at hb
  split at hb
  ·rename_i e
   obtain⟨c,e',h1,_⟩:=ff
   rw[<-e];exact(Array.getElem?_eq_some_iff.1 h1).1
  ·omega
 |raw sz rows a cap oG fo cm iP nM uK hc hr gV ff ih=>
  intro hb
  simp only[fj]at hb
  split at hb
  ·rename_i e
   obtain⟨c,e',h1,_⟩:=ff
   rw[<-e];exact(Array.getElem?_eq_some_iff.1 h1).1
  ·omega
 |_=>intro hb;simp[fj]at hb
theorem cj.held{as:List AV}{xs:List Value}{b:Nat}(h:cj w G as xs)(hb:0<bV b as xs):b<w.heap.size:=by
 have:aO w G (.agg as) (.agg xs.toArray):=.agg _ _ (by simpa using h.1) λi c v e1 e2=>h.2 i c v e1 (by simpa using e2)
 exact this.held (by simpa [fj] using hb)
theorem og.held{ob:fL}{loc:j9}{b:Nat}(h:og w G ob loc)(hb:0<gX b loc ob):b<w.heap.size:=by
 have jl:loc.jl=some b->b<w.heap.size:=by
  intro e
  unfold j9.jl at e
  split at e
  ·cases e
  ·rename_i fo
   cases ob with
   |rows bX sz rows=>
    obtain⟨_,_,h3⟩:=h
    rcases h3.oe with⟨h0,_⟩|⟨b',off,c,e',g1,g2,g3,_⟩
    ·exact absurd h0 fo
    ·rw[g1]at e;simp at e;subst e;exact(Array.getElem?_eq_some_iff.1 g3).1
   |map es=>
    obtain⟨_,_,b',tK,clock,h3,h4,_⟩:=h
    rw[h3]at e;simp at e;subst e;exact(Array.getElem?_eq_some_iff.1 h4).1
 cases ob with
 |rows bX sz rows=>
  simp only[gX]at hb
  split at hb
  ·exact jl (by assumption)
  ·obtain⟨_,_,h3⟩:=h
   have key:∀(rs:List (List AV)) (xs:List (List Value)),0<fz b rs xs->∃(i:Nat) (r:List AV) (x:List Value),rs[i]?=some r/\xs[i]?=some x/\0<bV b r x:=by
    intro rs
    induction rs with
    |nil=>intro xs h;simp[fz]at h
    |cons r rs ih=>
     intro xs h
     cases xs with
     |nil=>simp[fz]at h
     |cons x xs=>
      simp only[fz]at h
      by_cases hc:0<bV b r x
      ·exact⟨0,r,x,rfl,rfl,hc⟩
      ·obtain⟨i,r',x',e1,e2,e3⟩:=ih xs (by omega)
       exact⟨i+1,r',x',by simpa using e1,by simpa using e2,e3⟩
   obtain⟨i,r,x,e1,e2,e3⟩:=key rows loc.vals (by omega)
   exact(h3.rm i r x e1 e2).held e3
 |map es=>
  simp only[gX]at hb
  split at hb
  ·exact jl (by assumption)
  ·omega
theorem iH.held{st:aj}{b:Nat}(h:iH w G st)(hb:0<b6 b G.ls st):b<w.heap.size:=by
 have key:∀(ls:List j9) (st:List fL),0<b6 b ls st->∃(i:Nat) (l:j9) (o:fL),ls[i]?=some l/\st[i]?=some o/\0<gX b l o:=by
  intro ls
  induction ls with
  |nil=>intro st h;simp[b6]at h
  |cons l ls ih=>
   intro st h
   cases st with
   |nil=>simp[b6]at h
   |cons o st=>
    simp only[b6]at h
    by_cases hc:0<gX b l o
    ·exact⟨0,l,o,rfl,rfl,hc⟩
    ·obtain⟨i,l',o',e1,e2,e3⟩:=ih st (by omega)
     exact⟨i+1,l',o',by simpa using e1,by simpa using e2,e3⟩
 obtain⟨i,l,o,e1,e2,e3⟩:=key G.ls st hb
 exact(h.bC i o l e2 e1).held e3
theorem jD.held{bx:aU}{b:Nat}(h:jD w G β bx)(hb:0<fM b β bx):b<w.heap.size:=by
 have key:∀(β:List lE) (bx:aU),0<fM b β bx->∃(i:Nat) (g:lE) (r:List AV),β[i]?=some g/\bx[i]?=some r/\0<(if g.jl=some b then 1 else 0)+bV b r g.vals:=by
  intro β
  induction β with
  |nil=>intro st h;simp[fM]at h
  |cons l ls ih=>
   intro st h
   cases st with
   |nil=>simp[fM]at h
   |cons o st=>
    simp only[fM]at h
    by_cases hc:0<(if l.jl=some b then 1 else 0)+bV b o l.vals
    ·exact⟨0,l,o,rfl,rfl,hc⟩
    ·obtain⟨i,l',o',e1,e2,e3⟩:=ih st (by omega)
     exact⟨i+1,l',o',by simpa using e1,by simpa using e2,e3⟩
 obtain⟨i,g,r,e1,e2,e3⟩:=key β bx hb
 have hB:=h.box i r g e2 e1
 by_cases hc:0<bV b r g.vals
 ·exact hB.lC.held hc
 ·split at e3
  ·rename_i ff
   rcases hB.oe with⟨h0,_⟩|⟨b',c,e',g1,g2,_⟩
   ·rw[h0]at ff;cases ff
   ·rw[g1]at ff;cases ff;exact(Array.getElem?_eq_some_iff.1 g2).1
  ·omega
end Ax
namespace Ax
open Go
variable {P:Program}{w w':World}{G G':aM}{β gf:List lE}{ρ:Operand->Value}{o:Oper}
structure iU (w:World)(G:aM)(β:List lE)(st:aj)(bx:aU)(cO:Nat->Nat)(w':World)(G':aM)(gf:List lE)(bS:aj)(fm:aU)(e:eG)(v:Value):Prop where
 iR:qq w G w' G'
 inv:iH w' G' bS
 box:jD w' G' gf fm
 lC:jQ w' G' gf e v
 fj:∀b,cv b e v+fM b gf fm+b6 b G'.ls bS<=cO b+fM b β bx+b6 b G.ls st+(if w.heap.size<=b then 1 else 0)
 tQ:∀b,cO b+fM b β bx+b6 b G.ls st=0->b<w.heap.size->dL w G w' G' b
 size:w.heap.size<=w'.heap.size
 os:w'.os=w.os
 out:w'.output=w.output
theorem iU.lO{st:aj}{bx:aU}{cO:Nat->Nat}{e:eG}{v:Value}(hI:iH w G st)(hB:jD w G β bx)(hr:jQ w G β e v)(hc:∀b,cv b e v<=cO b):iU w G β st bx cO w G β st bx e v where
 iR:=qq.refl w G
 inv:=hI
 box:=hB
 lC:=hr
 fj:=λb=>by have:=hc b;omega
 tQ:=λ_ _ _=>⟨rfl,rfl⟩
 size:=Nat.le_refl _
 os:=rfl
 out:=rfl
def aM.new(G:aM)(n:Nat)(x:Option Nat)(l:List j9):aM:=⟨G.ls++l,λb=>if b=n then x else G.kR b⟩
theorem MO{ob:Obj}(hw:w'.heap=w.heap.push ob){b o:Nat}(hb:b<w.heap.size):w'.cell? ⟨b,o,none⟩=w.cell? ⟨b,o,none⟩:=by
 refine oH ?_
 rw[hw,Array.getElem?_push,if_neg (by omega)]
theorem qu{ob:Obj}(hw:w'.heap=w.heap.push ob)(x:Option Nat)(l:List j9):qq w G w' (G.new w.heap.size x l) where
 ON:=λb o hi=>by
  refine⟨MO hw hi.1,by rw[hw];simp;have:=hi.1;omega,λp hp=>?_⟩
  have:¬b=w.heap.size:=by have:=hi.1;omega
  simp only[aM.new,if_neg this]at hp
  exact hi.2 p hp
 Lb:=λid loc hl=>by
  refine⟨loc,?_,Nat.le_refl _,λ_=>rfl⟩
  simp only[aM.new]
  rw[List.getElem?_append_left (List.getElem?_eq_some_iff.1 hl).1]
  exact hl
theorem gn{ob:Obj}(hw:w'.heap=w.heap.push ob)(x:Option Nat)(l:List j9){b:Nat}(hb:b<w.heap.size):dL w G w' (G.new w.heap.size x l) b:=by
 refine⟨by simp only[aM.new];rw[if_neg (by omega)],?_⟩
 rw[hw,Array.getElem?_push,if_neg (by omega)]
theorem aO.push{ob:Obj}(hw:w'.heap=w.heap.push ob)(x:Option Nat)(l:List j9){a:AV}{v:Value}(h:aO w G a v):aO w' (G.new w.heap.size x l) a v:=
 h.iR (qu hw x l) λ_ hb=>gn hw x l (h.held hb)
theorem cj.push{ob:Obj}(hw:w'.heap=w.heap.push ob)(x:Option Nat)(l:List j9){as:List AV}{xs:List Value}(h:cj w G as xs):cj w' (G.new w.heap.size x l) as xs:=
 ⟨h.1,λi c v e1 e2=>(h.2 i c v e1 e2).push hw x l⟩
theorem Lh{ob:Obj}(hw:w'.heap=w.heap.push ob)(x:Option Nat){st:aj}(hI:iH w G st):iH w' (G.new w.heap.size x []) st where
 len:=by simp[aM.new,hI.len]
 bC:=λid GG loc h1 h2=>by
  simp only[aM.new,List.append_nil]at h2
  have h:=hI.bC id GG loc h1 h2
  exact h.iR (qu hw x []) λb hb=>gn hw x [] (h.held hb)
 lF:=λb p hp=>by
  simp only[aM.new]at hp
  rw[hw]
  simp only[Array.size_push]
  split at hp
  ·omega
  ·have:=hI.lF b p hp;omega
theorem G5{ob:Obj}(hw:w'.heap=w.heap.push ob)(x:Option Nat){st:aj}(hI:iH w G st){loc:j9}{ao:fL}(h:og w' (G.new w.heap.size x [loc]) ao loc):iH w' (G.new w.heap.size x [loc]) (st++[ao]) where
 len:=by simp[aM.new,hI.len]
 bC:=λid GG l h1 h2=>by
  simp only[aM.new]at h2
  by_cases Jm:id<st.length
  ·rw[List.getElem?_append_left Jm]at h1
   rw[List.getElem?_append_left (by rw[hI.len];exact Jm)]at h2
   have h:=hI.bC id GG l h1 h2
   exact h.iR (qu hw x [loc]) λb hb=>gn hw x [loc] (h.held hb)
  ·rw[List.getElem?_append_right (by omega)]at h1
   rw[List.getElem?_append_right (by rw[hI.len];omega)]at h2
   rw[hI.len]at h2
   have h0:id-st.length=0:=by
    have:=(List.getElem?_eq_some_iff.1 h1).1;simp at this;omega
   rw[h0]at h1 h2
   simp at h1 h2
   subst h1;subst h2
   exact h
 lF:=λb p hp=>by
  simp only[aM.new]at hp
  rw[hw]
  simp only[Array.size_push]
  split at hp
  ·omega
  ·have:=hI.lF b p hp;omega
theorem Bt{ob:Obj}(hw:w'.heap=w.heap.push ob)(x:Option Nat)(l:List j9){bx:aU}(hB:jD w G β bx):jD w' (G.new w.heap.size x l) β bx where
 len:=hB.len
 box:=λj row g h1 h2=>by
  have h:=hB.box j row g h1 h2
  refine h.iR (qu hw x l) λb hb=>gn hw x l (hB.held (b:=b) ?_)
  have:=mo b β bx j g row h2 h1
  omega
theorem AG{ob:Obj}(hw:w'.heap=w.heap.push ob)(Jn:w'.os=w.os)(vL:w'.output=w.output)(x:Option Nat){st:aj}{bx:aU}(hI:iH w G st)(hB:jD w G β bx){cO:Nat->Nat}{a:AV}{v:Value}
  (hr:aO w' (G.new w.heap.size x []) a v)(hc:∀b,fj b a v<=if b=w.heap.size then 1 else 0):iU w G β st bx cO w' (G.new w.heap.size x []) β st bx (.val a) v where
 iR:=qu hw x []
 inv:=Lh hw x hI
 box:=Bt hw x [] hB
 lC:=hr
 fj:=λb=>by
  have:=hc b
  simp only[cv,aM.new,List.append_nil]
  split at this
  ·rename_i e;subst e;simp;omega
  ·omega
 tQ:=λb _ hb=>gn hw x [] hb
 size:=by rw[hw];simp
 os:=Jn
 out:=vL
theorem qv{ob:Obj}(hw:w'.heap=w.heap.push ob)(Jn:w'.os=w.os)(vL:w'.output=w.output){st:aj}{bx:aU}(hI:iH w G st)(hB:jD w G β bx){cO:Nat->Nat}{a:AV}{v:Value}{loc:j9}{ao:fL}
  (h:og w' (G.new w.heap.size (some 0) [loc]) ao loc)(hr:aO w' (G.new w.heap.size (some 0) [loc]) a v)(hn:a.bZ=true)(hc:∀b,gX b loc ao<=(if b=w.heap.size then 1 else 0)+cO b) :
  iU w G β st bx cO w' (G.new w.heap.size (some 0) [loc]) β (st++[ao]) bx (.val a) v where
 iR:=qu hw _ _
 inv:=G5 hw _ hI h
 box:=Bt hw _ _ hB
 lC:=hr
 fj:=λb=>by
  have h1:=hc b
  simp only[cv,aM.new,eJ b a v hn]
  rw[qt b _ _ _ _ hI.len]
  simp only[b6]
  split at h1
  ·rename_i e;subst e;simp;omega
  ·omega
 tQ:=λb _ hb=>gn hw _ _ hb
 size:=by rw[hw];simp
 os:=Jn
 out:=vL
theorem qw{sz:Nat}{α:Type}:∀(rows:List (List α))(i j:Nat) r c,(∀r∈rows,r.length=sz)->rows[i]?=some r->r[j]?=some c->rows.flatten[i*sz+j]?=some c
 |[],_,_,_,_,_,h,_=>by simp at h
 |r0::rows,0,j,r,c,hf,h1,h2=>by
  simp at h1;subst h1
  simp only[List.flatten_cons,Nat.zero_mul,Nat.zero_add]
  rw[List.getElem?_append_left (List.getElem?_eq_some_iff.1 h2).1]
  exact h2
 |r0::rows,i+1,j,r,c,hf,h1,h2=>by
  have ih:=qw rows i j r c (λr hr=>hf r (by simp[hr])) (by simpa using h1) h2
  have h0:r0.length=sz:=hf r0 (by simp)
  simp only[List.flatten_cons]
  rw[List.getElem?_append_right (by rw[h0,Nat.succ_mul];omega),h0]
  rw[show (i+1)*sz+j-sz=i*sz+j by rw[Nat.succ_mul];omega]
  exact ih
theorem cn{sz:Nat}{rows:List (List AV)}:bU sz rows=true↔∀r∈rows,r.length=sz:=by
 simp[bU]
theorem eX{sz:Nat}{α:Type}:∀(rows:List (List α)),(∀r∈rows,r.length=sz)->rows.flatten.length=rows.length*sz
 |[],_=>by simp
 |r::rows,h=>by
  simp only[List.flatten_cons,List.length_append,List.length_cons]
  rw[eX rows λr hr=>h r (by simp[hr]),h r (by simp),Nat.succ_mul]
  omega
def pH{α:Type}(sz:Nat):Nat->List α->List (List α)
 |0,_=>[]
 |n+1,xs=>xs.take sz::pH sz n (xs.drop sz)
theorem zD{α:Type}(sz:Nat):∀(n:Nat)(xs:List α),(pH sz n xs).length=n
 |0,_=>rfl
 |n+1,xs=>by simp[pH,zD sz n]
theorem Bu{α:Type}(sz:Nat):∀(n:Nat)(xs:List α)(i:Nat) ys,(pH sz n xs)[i]?=some ys->ys=(xs.drop (i*sz)).take sz
 |0,_,_,_,h=>by simp[pH]at h
 |n+1,xs,0,ys,h=>by simp[pH]at h;simp[h]
 |n+1,xs,i+1,ys,h=>by
  simp only[pH,List.getElem?_cons_succ]at h
  rw[Bu sz n _ i ys h,List.drop_drop]
  congr 2
  rw[Nat.succ_mul];omega
theorem DT{sz:Nat}:∀(rows:List (List AV))(i:Nat) r,(∀r∈rows,r.length=sz)->rows[i]?=some r->(rows.flatten.drop (i*sz)).take sz=r
 |[],_,_,_,h=>by simp at h
 |r0::rows,0,r,hf,h=>by
  simp at h;subst h
  have h0:r0.length=sz:=hf r0 (by simp)
  simp[<-h0]
 |r0::rows,i+1,r,hf,h=>by
  have ih:=DT rows i r (λr hr=>hf r (by simp[hr])) (by simpa using h)
  have h0:r0.length=sz:=hf r0 (by simp)
  simp only[List.flatten_cons]
  rw[show (i+1)*sz=r0.length+i*sz by rw[h0,Nat.succ_mul];omega,<-List.drop_drop,List.drop_left]
  exact ih
theorem pI{sz:Nat}(b:Nat):∀(rows:List (List AV))(xs:List Value),(∀r∈rows,r.length=sz)->rows.flatten.length=xs.length->fz b rows (pH sz rows.length xs)=bV b rows.flatten xs
 |[],xs,_,_=>by simp[fz,Bo]
 |r::rows,xs,hf,hl=>by
  have h0:r.length=sz:=hf r (by simp)
  simp only[List.length_cons,pH,fz,List.flatten_cons]
  rw[List.flatten_cons,List.length_append]at hl
  rw[pI b rows (xs.drop sz) (λr hr=>hf r (by simp[hr])) (by rw[List.length_drop];omega)]
  have:=fy b r rows.flatten (xs.take sz) (xs.drop sz) (by rw[List.length_take];omega)
  rw[List.take_append_drop]at this
  omega
theorem mq{sz:Nat}{rows:List (List AV)}{loc:j9}{b off:Nat}{c:Array Value}{e:TypeId}{xs:List Value}(hf:bU sz rows=true)(iA:∀r∈rows,AV.aK r=true)(dy:cj w G rows.flatten xs)
  (h1:loc.len=rows.length)(h2:loc.sz=sz)(h3:loc.vals=pH sz rows.length xs)(h4:loc.a=some ⟨b,off,none⟩)(h5:0<loc.cap)(h6:w.heap[b]?=some (.cells c e (0,0)))(h7:off+loc.cap*sz<=c.size)
  (h8:rows.length<=loc.cap) (h9:G.kR b=some 0) (Bv:∀(k:Nat) x,xs[k]?=some x->w.cell? ⟨b,off+k,none⟩=some x):tN w G sz rows loc where
 Dp:=hf
 AE:=iA
 len:=h1
 size:=h2
 qO:=by rw[h3,zD]
 rm:=λi r ys e1 e2=>by
  rw[h3]at e2
  rw[Bu _ _ _ _ _ e2,<-DT rows i r (cn.1 hf) e1]
  exact(dy.drop _).take _
 oe:=by
  refine .inr ⟨b,off,c,e,h4,h5,h6,h7,h8,h9,λi ys j x e1 e2=>?_⟩
  rw[h3]at e1
  rw[Bu _ _ _ _ _ e1,List.getElem?_take]at e2
  split at e2
  ·rw[List.getElem?_drop]at e2;exact Bv _ x e2
  ·cases e2
end Ax
namespace Ax
open Go
variable {P:Program}{w w':World}{G G':aM}{β gf:List lE}{ρ:Operand->Value}{o:Oper}
theorem Bw{c:Array Value}{e:TypeId}(hw:w'.heap=w.heap.push (.cells c e)){k:Nat}{x:Value}(h:c[k]?=some x):w'.cell? ⟨w.heap.size,k,none⟩=some x:=by
 simp[World.cell?,hw,h]
theorem pJ{ob:Obj}(hw:w'.heap=w.heap.push ob):w'.heap[w.heap.size]?=some ob:=by simp[hw]
theorem OZ{sz cap:Nat}{rows:List (List AV)}{c:Array Value}{e:TypeId}{xs:List Value}{l:List j9}(hw:w'.heap=w.heap.push (.cells c e))(hf:bU sz rows=true)(iA:∀r∈rows,AV.aK r=true)
  (dy:cj w G rows.flatten xs)(h5:0<cap)(h7:cap*sz<=c.size)(h8:rows.length<=cap)(hx:∀(k:Nat) x,xs[k]?=some x->c[k]?=some x)(bX:Nat) :
  tN w' (G.new w.heap.size (some 0) l) sz rows ⟨some ⟨w.heap.size,0,none⟩,cap,rows.length,sz,bX,false,pH sz rows.length xs⟩:=
 mq hf iA (dy.push hw _ _) rfl rfl rfl rfl h5 (pJ hw) (by simpa using h7) h8 (by simp[aM.new]) λk x hk=>by
  rw[Nat.zero_add];exact Bw hw (hx k x hk)
theorem tS{sz cap:Nat}{rows:List (List AV)}{c:Array Value}{e:TypeId}{xs:List Value}{st:aj}{bx:aU}(hI:iH w G st)(hB:jD w G β bx){cO:Nat->Nat}(hw:w'.heap=w.heap.push (.cells c e))(Jn:w'.os=w.os)(vL:w'.output=w.output)
  (hf:bU sz rows=true)(iA:∀r∈rows,AV.aK r=true)(dy:cj w G rows.flatten xs)(h5:0<cap)(h7:cap*sz<=c.size)(h8:rows.length<=cap)
  (hx:∀(k:Nat) x,xs[k]?=some x->c[k]?=some x) (hc:∀b,bV b rows.flatten xs<=cO b) :
  ∃G',iU w G β st bx cO w' G' β (st++[.rows 0 sz rows]) bx (.val (.mu st.length 0)) (.slice (some ⟨w.heap.size,0,none⟩) rows.length cap)/\
   iU w G β st bx cO w' G' β (st++[.rows 0 sz rows]) bx (.val (.ptr st.length 0 0 0)) (.pointer (some ⟨w.heap.size,0,none⟩)):=by
 have hR:=OZ (l:=[⟨some ⟨w.heap.size,0,none⟩,cap,rows.length,sz,0,false,pH sz rows.length xs⟩]) hw hf iA dy h5 h7 h8 hx 0
 have JE:∀b,gX b ⟨some ⟨w.heap.size,0,none⟩,cap,rows.length,sz,0,false,pH sz rows.length xs⟩ (.rows 0 sz rows)<=(if b=w.heap.size then 1 else 0)+cO b:=by
  intro b
  simp only[gX,j9.jl]
  rw[pI b rows xs (cn.1 hf) dy.1,if_neg (show ¬cap=0 by omega)]
  have:=hc b
  simp only[Option.map_some,Option.some.injEq]
  by_cases hb:b=w.heap.size
  ·subst hb;simp;omega
  ·rw[if_neg (λh=>hb h.symm),if_neg hb];omega
 have hl:(G.new w.heap.size (some 0) [⟨some ⟨w.heap.size,0,none⟩,cap,rows.length,sz,0,false,pH sz rows.length xs⟩]).ls[st.length]?=some ⟨some ⟨w.heap.size,0,none⟩,cap,rows.length,sz,0,false,pH sz rows.length xs⟩:=by
  simp only[aM.new]
  rw[List.getElem?_append_right (by rw[hI.len];exact Nat.le_refl _),hI.len]
  simp
 refine⟨_,qv hw Jn vL hI hB ⟨rfl,rfl,hR⟩ (.mu _ _ _ _ ⟨_,_,_,rfl⟩ hl (Nat.le_refl _) λ_=>rfl) rfl JE,
  qv hw Jn vL hI hB ⟨rfl,rfl,hR⟩ (.ptr _ _ _ _ _ _ ⟨_,rfl⟩ hl (Nat.le_refl _) λ_=>⟨_,rfl,by simp⟩) rfl JE⟩
theorem E7{sz cap:Nat}{rows:List (List AV)}{b off:Nat}{c:Array Value}{e:TypeId}{xs:List Value}(hf:bU sz rows=true)(iA:∀r∈rows,AV.aK r=true)(iP:∀r∈rows,AV.dH r=true)(nM:∀r∈rows,AV.ah r=true)
  (dy:cj w G rows.flatten xs)(h6:w.heap[b]?=some (.cells c e (0,0)))(h7:off+cap*sz<=c.size)(h8:rows.length<=cap)(h9:G.kR b=some (off+rows.length*sz))
  (hx:∀(k:Nat) x,xs[k]?=some x->c[off+k]?=some x):aO w G (.je sz rows) (.slice (some ⟨b,off,none⟩) rows.length cap):=by
 have mQ:∀(k:Nat) x,xs[k]?=some x->w.cell? ⟨b,off+k,none⟩=some x:=λk x h=>by simp[World.cell?,h6,hx k x h]
 have key:∀(i:Nat) r (j:Nat) a,rows[i]?=some r->r[j]?=some a->∃v,w.cell? ⟨b,off+(i*sz+j),none⟩=some v/\aO w G a v:=by
  intro i r j a h1 h2
  have h3:=qw rows i j r a (cn.1 hf) h1 h2
  have bn:i*sz+j<xs.length:=by rw[<-dy.1];exact(List.getElem?_eq_some_iff.1 h3).1
  exact⟨_,mQ _ _ (List.getElem?_eq_getElem bn),dy.2 _ _ _ h3 (List.getElem?_eq_getElem bn)⟩
 refine .je sz rows ⟨b,off,none⟩ cap rfl h8 hf iP nM iA (λi r j a h1 h2=>?_) (λi r j a v h1 h2 h3=>?_) h9 ⟨c,e,h6,h7⟩
 ·obtain⟨v,h,_⟩:=key i r j a h1 h2;exact⟨v,h⟩
 ·obtain⟨v',h,h'⟩:=key i r j a h1 h2
  rw[h]at h3;cases h3;exact h'
theorem E8{sz cap:Nat}{rows:List (List AV)}{c:Array Value}{e:TypeId}{xs:List Value}{st:aj}{bx:aU}(hI:iH w G st)(hB:jD w G β bx){cO:Nat->Nat}(hw:w'.heap=w.heap.push (.cells c e))(Jn:w'.os=w.os)(vL:w'.output=w.output)
  (hf:bU sz rows=true)(iA:∀r∈rows,AV.aK r=true)(iP:∀r∈rows,AV.dH r=true)(nM:∀r∈rows,AV.ah r=true)
  (dy:cj w G rows.flatten xs) (h7:cap*sz<=c.size) (h8:rows.length<=cap)
  (hx:∀(k:Nat) x,xs[k]?=some x->c[k]?=some x) :
  ∃G',iU w G β st bx cO w' G' β st bx (.val (.je sz rows)) (.slice (some ⟨w.heap.size,0,none⟩) rows.length cap):=by
 refine⟨_,AG hw Jn vL (some (rows.length*sz)) hI hB (E7 hf iA iP nM (dy.push hw _ _) (pJ hw) (by simpa using h7) h8 (by simp[aM.new]) λk x hk=>by rw[Nat.zero_add];exact hx k x hk) λb=>?_⟩
 simp only[fj]
 split
 ·rename_i h;rw[if_pos h.symm];omega
 ·omega
theorem TK{sz cap:Nat}{rows:List (List AV)}{b off:Nat}{c:Array Value}{e:TypeId}{xs:List Value}(hf:bU sz rows=true)(iA:∀r∈rows,AV.aK r=true)(iP:∀r∈rows,AV.dH r=true)(nM:∀r∈rows,AV.ah r=true)
  (dy:cj w G rows.flatten xs)(h6:w.heap[b]?=some (.cells c e (0,0)))(h7:off+cap*sz<=c.size)(h8:rows.length<=cap)(h9:G.kR b=some 0)
  (hx:∀(k:Nat) x,xs[k]?=some x->c[off+k]?=some x):aO w G (.raw sz rows) (.slice (some ⟨b,off,none⟩) rows.length cap):=by
 have mQ:∀(k:Nat) x,xs[k]?=some x->w.cell? ⟨b,off+k,none⟩=some x:=λk x h=>by simp[World.cell?,h6,hx k x h]
 have key:∀(i:Nat) r (j:Nat) a,rows[i]?=some r->r[j]?=some a->∃v,w.cell? ⟨b,off+(i*sz+j),none⟩=some v/\aO w G a v:=by
  intro i r j a h1 h2
  have h3:=qw rows i j r a (cn.1 hf) h1 h2
  have bn:i*sz+j<xs.length:=by rw[<-dy.1];exact(List.getElem?_eq_some_iff.1 h3).1
  exact⟨_,mQ _ _ (List.getElem?_eq_getElem bn),dy.2 _ _ _ h3 (List.getElem?_eq_getElem bn)⟩
 refine .raw sz rows ⟨b,off,none⟩ cap rfl h8 hf iP nM iA (λi r j a h1 h2=>?_) (λi r j a v h1 h2 h3=>?_) h9 ⟨c,e,h6,h7⟩
 ·obtain⟨v,h,_⟩:=key i r j a h1 h2;exact⟨v,h⟩
 ·obtain⟨v',h,h'⟩:=key i r j a h1 h2
  rw[h]at h3;cases h3;exact h'
theorem TM{sz cap:Nat}{rows:List (List AV)}{c:Array Value}{e:TypeId}{xs:List Value}{st:aj}{bx:aU}(hI:iH w G st)(hB:jD w G β bx){cO:Nat->Nat}(hw:w'.heap=w.heap.push (.cells c e))(Jn:w'.os=w.os)(vL:w'.output=w.output)
  (hf:bU sz rows=true)(iA:∀r∈rows,AV.aK r=true)(iP:∀r∈rows,AV.dH r=true)(nM:∀r∈rows,AV.ah r=true)
  (dy:cj w G rows.flatten xs) (h7:cap*sz<=c.size) (h8:rows.length<=cap)
  (hx:∀(k:Nat) x,xs[k]?=some x->c[k]?=some x) :
  ∃G',iU w G β st bx cO w' G' β st bx (.val (.raw sz rows)) (.slice (some ⟨w.heap.size,0,none⟩) rows.length cap):=by
 refine⟨_,AG hw Jn vL (some 0) hI hB (TK hf iA iP nM (dy.push hw _ _) (pJ hw) (by simpa using h7) h8 (by simp[aM.new]) λk x hk=>by rw[Nat.zero_add];exact hx k x hk) λb=>?_⟩
 simp only[fj]
 split
 ·rename_i h;rw[if_pos h.symm];omega
 ·omega
theorem Li{row:List AV}{c:Array Value}{e:TypeId}{st:aj}{bx:aU}(hI:iH w G st)(hB:jD w G β bx){cO:Nat->Nat}(hw:w'.heap=w.heap.push (.cells c e))(Jn:w'.os=w.os)(vL:w'.output=w.output)
  {j:Nat}(hj:j<bx.length)(dy:cj w G row c.toList)(iA:AV.aK row=true)(hc:∀b,bV b row c.toList<=cO b) :
  iU w G β st bx cO w' (G.new w.heap.size (some 0) []) (β.set j ⟨some w.heap.size,c.toList⟩) st (bx.set j row) (.fp j 0) (.pointer (some ⟨w.heap.size,0,none⟩)) where
 iR:=qu hw _ _
 inv:=Lh hw _ hI
 box:=by
  have hB':=Bt hw (some 0) [] hB
  refine⟨by simp[hB.len],λi r g h1 h2=>?_⟩
  rw[List.getElem?_set]at h1 h2
  split at h1
  ·rename_i Al;subst Al
   rw[if_pos rfl,if_pos (by rw[hB.len];exact hj)]at h2
   cases h1;cases h2
   refine⟨dy.push hw _ _,iA,.inr ⟨w.heap.size,c,e,rfl,pJ hw,by rw[dy.1];simp,by simp[aM.new],λk x hk=>Bw hw (by simpa using hk)⟩⟩
  ·rw[if_neg (by assumption)]at h2
   exact hB'.box i r g h1 h2
 lC:=⟨_,_,by rw[List.getElem?_set,if_pos rfl,if_pos (by rw[hB.len];exact hj)],rfl,rfl⟩
 fj:=λb=>by
  have hjb:j<β.length:=by rw[hB.len];exact hj
  have hg:β[j]?=some β[j]:=List.getElem?_eq_getElem hjb
  have hr:bx[j]?=some bx[j]:=List.getElem?_eq_getElem hj
  have h1:=xd b β bx j _ _ ⟨some w.heap.size,c.toList⟩ row hg hr
  have h2:=hc b
  simp only[cv,aM.new,List.append_nil]
  simp only[Option.some.injEq]at h1
  by_cases hb:w.heap.size=b
  ·subst hb;simp only[if_true]at h1;rw[if_pos (Nat.le_refl _)];omega
  ·rw[if_neg hb]at h1;omega
 tQ:=λb _ hb=>gn hw _ _ hb
 size:=by rw[hw];simp
 os:=Jn
 out:=vL
theorem Lj{t:TypeId}(ho:o.op=.alloc t){i:TypeInfo}{z:Value}(hi:P.info? t=some i)(hz:i.zero=some z) :
  (execOp ρ o).run P w=.ok (.value (.pointer (some ⟨w.heap.size,0,none⟩))) (w.alloc (.cells z.cells t)):=by
 simp[execOp,ho,Instr.alloc,zeroValue,typeInfo,hi,hz,newVar,newRow]
theorem Wi{t:TypeId}{x:Operand}(ho:o.op=.box t x) :
  (execOp ρ o).run P w=.ok (.value (.pointer (some ⟨w.heap.size,0,none⟩))) (w.alloc (.cells (ρ x).cells t)):=by
 simp[execOp,ho,Instr.box,newVar,newRow]
theorem DU{zero:List AV}(h:∀c∈zero,c.bZ=true/\c.an=true)(b:Nat)(xs:List Value):bV b zero xs=0:=
 dn b _ _ ((cy zero).2 λc hc=>(h c hc).1)
theorem MP{st:aj}{bx:aU}(hI:iH w G st)(hB:jD w G β bx){cO:Nat->Nat}{t:TypeId}{z:Value}{zero:List AV}(dy:cj w G zero z.cells.toList)(hn:∀c∈zero,c.bZ=true/\c.an=true)(hc:AV.aK zero=true) :
  ∃G',iU w G β st bx cO (w.alloc (.cells z.cells t)) G' β (st++[.rows 0 zero.length [zero]]) bx (.val (.ptr st.length 0 0 0)) (.pointer (some ⟨w.heap.size,0,none⟩)):=by
 obtain⟨G',_,h⟩:=tS (sz:=zero.length) (cap:=1) (rows:=[zero]) (c:=z.cells) (e:=t) (xs:=z.cells.toList) (w':=w.alloc (.cells z.cells t)) (cO:=cO) hI hB rfl rfl rfl (by simp[bU]) (by simpa using hc) (by simpa using dy) (by omega)
  (by rw[dy.1];simp) (by simp) (by simp) (λb=>by simp only[List.flatten_cons,List.flatten_nil,List.append_nil];rw[DU hn];omega)
 exact⟨G',h⟩
theorem O1{st:aj}{bx:aU}(hI:iH w G st)(hB:jD w G β bx){cO:Nat->Nat}{t:TypeId}{a:AV}{v:Value}{n:Nat}(hv:aO w G a v)(hn:a.cells.length=n)(hc:AV.aK a.cells=true)(hO:∀b,fj b a v<=cO b) :
  ∃G',iU w G β st bx cO (w.alloc (.cells v.cells t)) G' β (st++[.rows 0 n [a.cells]]) bx (.val (.ptr st.length 0 0 0)) (.pointer (some ⟨w.heap.size,0,none⟩)):=by
 obtain⟨hr,Le⟩:=hv.cells
 obtain⟨G',_,h⟩:=tS (sz:=n) (cap:=1) (rows:=[a.cells]) (c:=v.cells) (e:=t) (xs:=v.cells.toList) (w':=w.alloc (.cells v.cells t)) (cO:=cO) hI hB rfl rfl rfl (by simp[bU,hn]) (by simpa using hc) (by simpa using hr) (by omega)
  (by rw[<-hn,hr.1];simp) (by simp) (by simp) (λb=>by simp only[List.flatten_cons,List.flatten_nil,List.append_nil];rw[Le];exact hO b)
 exact⟨G',h⟩
theorem Bx{α:Type}{sz:Nat}:∀(rows:List (List α))(i:Nat)(r:List α),(∀r∈rows,r.length=sz)->r.length=sz->i<rows.length->(rows.set i r).flatten=af rows.flatten (i*sz) r
 |[],_,_,_,_,h=>by simp at h
 |r0::rows,0,r,hf,hr,_=>by
  have h0:r0.length=sz:=hf r0 (by simp)
  have e:=jn (r0++rows.flatten) 0 r (by simp;omega)
  simp only[List.set_cons_zero,List.flatten_cons,Nat.zero_mul]
  rw[e]
  simp[hr,<-h0]
 |r0::rows,i+1,r,hf,hr,h=>by
  have h0:r0.length=sz:=hf r0 (by simp)
  have hf':∀r∈rows,r.length=sz:=λr hr=>hf r (by simp[hr])
  have ih:=Bx rows i r hf' hr (by simpa using h)
  have bn:i<rows.length:=by simpa using h
  have hle:i*sz+r.length<=rows.flatten.length:=by
   rw[eX rows hf',hr]
   calc i*sz+sz=(i+1)*sz:=by rw[Nat.succ_mul]
    _<=rows.length*sz:=Nat.mul_le_mul_right _ bn
  have h1:(i+1)*sz=r0.length+i*sz:=by rw[h0,Nat.succ_mul];omega
  simp only[List.set_cons_succ,List.flatten_cons]
  rw[ih,h1,jn (r0++rows.flatten) _ _ (by rw[List.length_append];omega),jn _ _ _ hle,Nat.add_assoc,List.take_append,List.drop_append]
  simp[List.append_assoc,show r0.length+i*sz-r0.length=i*sz by omega,show r0.length+(i*sz+r.length)-r0.length=i*sz+r.length by omega,List.take_of_length_le,List.drop_of_length_le]
theorem vW{sz:Nat}:∀(qs:List Nat)(vs:List AV)(rows dN:List (List AV)),(∀r∈rows,r.length=sz)->fN sz rows qs vs=some dN->
  ir rows.flatten (qs.map λi=>(i*sz,sz)) vs=some dN.flatten/\(∀r∈dN,r.length=sz)/\dN.length=rows.length
 |[],[],rows,dN,hf,h=>by simp[fN]at h;subst h;exact⟨rfl,hf,rfl⟩
 |[],_::_,_,_,_,h=>by simp[fN]at h
 |_::_,[],_,_,_,h=>by simp[fN]at h
 |i::qs,v::vs,rows,dN,hf,h=>by
  simp only[fN]at h
  split at h
  ·rename_i hc
   simp only[Bool.and_eq_true,decide_eq_true_eq]at hc
   have hf':∀r∈rows.set i v.cells,r.length=sz:=by
    intro r hr
    rcases List.mem_or_eq_of_mem_set hr with h|h
    ·exact hf r h
    ·rw[h];exact hc.1
   obtain⟨e1,e2,e3⟩:=vW qs vs _ dN hf' h
   refine⟨?_,e2,by simpa using e3⟩
   have hle:i*sz+sz<=rows.flatten.length:=by
    rw[eX rows hf]
    calc i*sz+sz=(i+1)*sz:=by rw[Nat.succ_mul]
     _<=rows.length*sz:=Nat.mul_le_mul_right _ hc.2
   simp only[List.map_cons,ir]
   rw[if_pos (by simp only[hc.1,decide_true,Bool.true_and,decide_eq_true_eq];exact hle),<-Bx rows i v.cells hf hc.1 hc.2]
   exact e1
  ·cases h
theorem wI(sz n:Nat)(zero:List AV)(hz:zero.length=sz)(eH:0<sz)(k:Nat)(hk:k<n*sz):(List.replicate n zero).flatten[k]?=zero[k % sz]?:=by
 have hi:k / sz<n:=Nat.div_lt_of_lt_mul (by rw[Nat.mul_comm];exact hk)
 have hj:k % sz<zero.length:=by rw[hz];exact Nat.mod_lt _ eH
 have h:=qw (sz:=sz) (List.replicate n zero) (k / sz) (k % sz) zero zero[k % sz] (λr hr=>by rw[List.eq_of_mem_replicate hr,hz]) (by rw[List.getElem?_replicate,if_pos hi]) (List.getElem?_eq_getElem hj)
 rw[Nat.mul_comm,Nat.div_add_mod]at h
 rw[h,List.getElem?_eq_getElem hj]
theorem yG{sz n:Nat}{zero:List AV}{z:Array Value}(dy:cj w G zero z.toList)(hz:zero.length=sz)(eH:0<sz) :
  cj w G (List.replicate n zero).flatten (((Array.range (n*sz)).map (z[· % z.size]!)).toList):=by
 have hs:z.size=sz:=by rw[<-hz,dy.1];simp
 refine⟨by rw[eX (sz:=sz) _ (λr hr=>by rw[List.eq_of_mem_replicate hr,hz])];simp,λk c v h1 h2=>?_⟩
 have hk:k<n*sz:=by
  have:=(List.getElem?_eq_some_iff.1 h2).1;simpa using this
 rw[wI sz n zero hz eH k hk]at h1
 have hm:k % sz<z.size:=by rw[hs];exact Nat.mod_lt _ eH
 simp only[Array.toList_map,Array.toList_range,List.getElem?_map,List.getElem?_range hk,Option.map_some,Option.some.injEq,hs]at h2
 refine dy.2 _ c v h1 ?_
 rw[<-h2,getElem!_pos z (k % sz) hm]
 simp[hm]
theorem Wj{t e:TypeId}{n sz:Nat}{parts:Array (Nat×Operand)}(ho:o.op=.buildSlice t n parts)(hu:P.underlying t=some (.slice e))(eH:cx P e sz=true)(JF:n*sz<=16777216){zero:List AV}(hz:mW P e zero=true)
  (TN:0<sz)(Ll:zero.length=sz){qs:List Nat}(hq:parts.toList.map (·.1)=qs){vs:List AV}{rows:List (List AV)}(ru:fN sz (List.replicate n zero) qs vs=some rows)(hn:0<n)(hv:cj w G vs (parts.toList.map λp=>ρ p.2)) :
  ∃cells,(execOp ρ o).run P w=.ok (.value (.slice (some ⟨w.heap.size,0,none⟩) rows.length n)) (w.alloc (.cells cells e))/\cj w G rows.flatten cells.toList/\(∀b,bV b rows.flatten cells.toList<=bV b vs (parts.toList.map λp=>ρ p.2))/\
   bU sz rows=true/\rows.length=n/\n*sz=cells.size:=by
 obtain⟨i,z,hi,OX,mO,GU,_⟩:=kK hz w G
 obtain⟨i',oT,Dq,_⟩:=kj eH
 rw[hi]at oT;cases oT
 obtain⟨e1,e2,e3⟩:=vW qs vs _ rows (λr hr=>by rw[List.eq_of_mem_replicate hr,Ll]) ru
 have E4:(parts.map λ(x:Nat×Operand)=>(x.1,ρ x.2)).toList.map (·.2)=parts.toList.map λp=>ρ p.2:=by simp[Function.comp_def]
 obtain⟨cells,f1,f2,f3⟩:=E3 (place:=λi=>some (i*sz,sz)) (parts.map λ(x:Nat×Operand)=>(x.1,ρ x.2)).toList _ vs _ _ _ e1 (yG mO Ll TN) (by rw[E4];exact hv) (by
  intro k p q h1 h2
  subst hq
  simp only[Array.toList_map,List.getElem?_map,Option.map_eq_some_iff,List.map_map]at h1 h2
  obtain⟨p',h1,rfl⟩:=h1
  obtain⟨p'',h2,rfl⟩:=h2
  rw[h1]at h2;cases h2
  rfl)
 have rU:rows.length=n:=by rw[e3];simp
 have hnz:¬n*i.size=0:=by rw[Dq];have:=Nat.mul_pos hn TN;omega
 have:=run_buildSlice w t e n (parts.map λ(x:Nat×Operand)=>(x.1,ρ x.2)) cells i z hu hi OX (by rw[Dq];omega) hnz (by rw[Dq];exact f1)
 refine⟨cells,?_,f2,λb=>?_,cn.2 e2,rU,?_⟩
 ·simp only[execOp,ho,Sem.run_bind,this,Result.andThen_ok,Sem.run_pure,rU]
 ·have h1:=f3 b
  rw[E4]at h1
  have h2:bV b (List.replicate n zero).flatten ((Array.range (n*sz)).map (z.cells[· % z.cells.size]!)).toList=0:=by
   refine dn b _ _ ((cy _).2 λc hc=>?_)
   obtain⟨r,hr,hc⟩:=List.mem_flatten.1 hc
   rw[List.eq_of_mem_replicate hr]at hc
   exact(GU c hc).1
  omega
 ·have:=f2.1
  rw[eX rows e2,rU]at this
  simpa using this
theorem G6{t e:TypeId}{x y:Operand}(ho:o.op=.makeSlice t x y)(hu:P.underlying t=some (.slice e)){sz bytes:Nat}(eH:cx P e sz=true)(TO:nA P e bytes=true){zero:List AV}(hz:mW P e zero=true)(TN:0<sz)(Ll:zero.length=sz)
  {n c:Int}(hx:ρ x=.int .i64 n)(hy:ρ y=.int .i64 c)(h0:0<=n)(h1:n<=c)(h2:c*bytes<=dQ)(h3:c<=9223372036854775807) :
  ∃cells,(execOp ρ o).run P w=.ok (.value (.slice (some ⟨w.heap.size,0,none⟩) n.toNat c.toNat)) (w.alloc (.cells cells e))/\cells.size=c.toNat*sz/\
   cj w G (List.replicate n.toNat zero).flatten (cells.toList.take (n.toNat*sz))/\∀b xs,bV b (List.replicate n.toNat zero).flatten xs=0:=by
 obtain⟨i,z,hi,OX,mO,GU,_⟩:=kK hz w G
 obtain⟨i',oT,Dq,_⟩:=kj eH
 rw[hi]at oT;cases oT
 have hb:i.bytes=bytes:=by simpa [nA,hi] using TO
 have:=run_make (P:=P) w t e i z hu hi OX .i64 .i64 n c h0 h1 (by rw[hb,Int.mul_comm];simp only[dQ]at h2;omega) h3
 refine⟨madeCells z.cells (c.toNat*i.size),by simp only[execOp,ho,hx,hy,Sem.run_bind,this,Result.andThen_ok,Sem.run_pure],by rw[size_madeCells,Dq],?_,λb xs=>?_⟩
 ·have hle:n.toNat*sz<=c.toNat*sz:=Nat.mul_le_mul_right _ (by omega)
  have h:=yG (w:=w) (G:=G) (n:=c.toNat) mO Ll TN
  have h':=h.take (n.toNat*sz)
  rw[Dq]
  unfold madeCells
  have e:(List.replicate c.toNat zero).flatten.take (n.toNat*sz)=(List.replicate n.toNat zero).flatten:=by
   have:c.toNat=n.toNat+(c.toNat-n.toNat):=by omega
   rw[this,<-List.replicate_append_replicate,List.flatten_append,List.take_left']
   exact eX (sz:=sz) _ (λr hr=>by rw[List.eq_of_mem_replicate hr,Ll]) |>.trans (by simp)
  rw[e]at h'
  exact h'
 ·refine dn b _ _ ((cy _).2 λc hc=>?_)
  obtain⟨r,hr,hc⟩:=List.mem_flatten.1 hc
  rw[List.eq_of_mem_replicate hr]at hc
  exact(GU c hc).1
theorem TQ{st:aj}{bx:aU}(hI:iH w G st)(hB:jD w G β bx){cO:Nat->Nat}:∃G',iU w G β st bx cO (w.alloc (.map #[] 0)) G' β (st++[.map []]) bx (.val (.map st.length)) (.map (some w.heap.size)):=by
 have hl:(G.new w.heap.size (some 0) [⟨some ⟨w.heap.size,0,none⟩,1,0,0,0,true,[]⟩]).ls[st.length]?=some ⟨some ⟨w.heap.size,0,none⟩,1,0,0,0,true,[]⟩:=by
  simp only[aM.new]
  rw[List.getElem?_append_right (by rw[hI.len];exact Nat.le_refl _),hI.len]
  simp
 refine⟨_,qv (loc:=⟨some ⟨w.heap.size,0,none⟩,1,0,0,0,true,[]⟩) (ao:=.map []) (w':=w.alloc (.map #[] 0)) (ob:=.map #[] 0) rfl rfl rfl hI hB ⟨rfl,rfl,w.heap.size,#[],0,rfl,pJ rfl,by simp[aM.new],rfl,λi k v e h=>by simp at h⟩ (.map _ _ _ hl rfl rfl) rfl λb=>?_⟩
 simp only[gX,j9.jl]
 by_cases hb:b=w.heap.size
 ·subst hb;simp
 ·simp[hb];rw[if_neg λh=>hb h.symm];omega
end Ax
namespace Ax
open Go
variable {P:Program}{w w':World}{G G':aM}{β gf:List lE}{ρ:Operand->Value}{o:Oper}
theorem nO{α:Type}{sz:Nat}:∀(rows:List (List α))(k:Nat)(c:α),(∀r∈rows,r.length=sz)->rows.flatten[k]?=some c->∃i j r,k=i*sz+j/\rows[i]?=some r/\r[j]?=some c
 |[],k,c,_,h=>by simp at h
 |r0::rows,k,c,hf,h=>by
  have h0:r0.length=sz:=hf r0 (by simp)
  simp only[List.flatten_cons]at h
  by_cases hk:k<r0.length
  ·rw[List.getElem?_append_left hk]at h
   exact⟨0,k,r0,by simp,rfl,h⟩
  ·rw[List.getElem?_append_right (by omega)]at h
   obtain⟨i,j,r,e1,e2,e3⟩:=nO rows _ c (λr hr=>hf r (by simp[hr])) h
   exact⟨i+1,j,r,by rw[Nat.succ_mul];omega,by simpa using e2,e3⟩
theorem rV:∀(rows:List (List AV))(vals:List (List Value)),rows.length=vals.length->(∀(i:Nat) r xs,rows[i]?=some r->vals[i]?=some xs->cj w G r xs)->cj w G rows.flatten vals.flatten
 |[],[],_,_=>⟨rfl,λi c v h=>by simp at h⟩
 |[],_::_,h,_=>by simp at h
 |_::_,[],h,_=>by simp at h
 |r::rows,x::vals,hl,h=>by
  obtain⟨a1,a2⟩:=h 0 r x rfl rfl
  obtain⟨b1,b2⟩:=rV rows vals (by simpa using hl) λi r xs h1 h2=>h (i+1) r xs (by simpa using h1) (by simpa using h2)
  refine⟨by simp only[List.flatten_cons,List.length_append,a1,b1],λi c v h1 h2=>?_⟩
  simp only[List.flatten_cons]at h1 h2
  by_cases hi:i<r.length
  ·rw[List.getElem?_append_left hi]at h1
   rw[List.getElem?_append_left (by omega)]at h2
   exact a2 i c v h1 h2
  ·rw[List.getElem?_append_right (by omega)]at h1
   rw[List.getElem?_append_right (by omega),<-a1]at h2
   exact b2 _ c v h1 h2
theorem xh(b:Nat):∀(rows:List (List AV))(vals:List (List Value)),rows.length=vals.length->(∀(i:Nat) r xs,rows[i]?=some r->vals[i]?=some xs->r.length=xs.length)->bV b rows.flatten vals.flatten=fz b rows vals
 |[],[],_,_=>rfl
 |[],_::_,h,_=>by simp at h
 |_::_,[],h,_=>by simp at h
 |r::rows,x::vals,hl,h=>by
  simp only[List.flatten_cons,fz]
  rw[fy b r _ x _ (h 0 r x rfl rfl),xh b rows vals (by simpa using hl) λi r xs h1 h2=>h (i+1) r xs (by simpa using h1) (by simpa using h2)]
theorem cj.append{as bs:List AV}{xs ys:List Value}(h:cj w G as xs)(k:cj w G bs ys):cj w G (as++bs) (xs++ys):=by
 refine⟨by simp[h.1,k.1],λi c v h1 h2=>?_⟩
 by_cases hi:i<as.length
 ·rw[List.getElem?_append_left hi]at h1
  rw[List.getElem?_append_left (by rw[<-h.1];exact hi)]at h2
  exact h.2 i c v h1 h2
 ·rw[List.getElem?_append_right (by omega)]at h1
  rw[List.getElem?_append_right (by rw[<-h.1];omega),<-h.1]at h2
  exact k.2 _ c v h1 h2
theorem G7{sz:Nat}{rows:List (List AV)}{a:Addr}{n cap:Nat}(h:aO w G (.dj sz rows) (.slice (some a) n cap)) :
  n=rows.length/\a.spot=none/\bU sz rows=true/\(∀r∈rows,AV.dH r=true)/\(∀r∈rows,AV.ah r=true)/\(∀r∈rows,AV.aK r=true)/\
  ∃xs:List Value,cj w G rows.flatten xs/\∀(k:Nat) x,xs[k]?=some x->w.cell? ⟨a.block,a.off+k,none⟩=some x:=by
 cases h with
 |dj _ _ _ _ oG fo cm iP nM uK hc hr=>
 refine⟨rfl,oG,cm,iP,nM,uK,(List.range rows.flatten.length).map λk=>(w.cell? ⟨a.block,a.off+k,none⟩).getD undef,⟨by simp,λk c v h1 h2=>?_⟩,λk x h=>?_⟩
 ·obtain⟨i,j,r,rfl,e2,e3⟩:=nO rows k c (cn.1 cm) h1
  obtain⟨_,y,hy⟩:=hc i r j c e2 e3
  have hk:=(List.getElem?_eq_some_iff.1 h1).1
  rw[List.getElem?_map,List.getElem?_range hk,Option.map_some,hy]at h2
  cases h2
  exact hr i r j c y e2 e3 hy
 ·have hk:k<rows.flatten.length:=by have:=(List.getElem?_eq_some_iff.1 h).1;simpa using this
  rw[List.getElem?_map,List.getElem?_range hk,Option.map_some]at h
  obtain⟨i,j,r,rfl,e2,e3⟩:=nO rows k _ (cn.1 cm) (List.getElem?_eq_getElem hk)
  obtain⟨_,y,hy⟩:=hc i r j _ e2 e3
  rw[hy]at h ⊢
  simpa using h
theorem zF(a:AV):a.view.cH=a.cH:=by cases a<;>simp[AV.view,AV.cH]
theorem pK:∀(cs:List AV),AV.aK (AV.cL cs)=AV.aK cs
 |[]=>rfl
 |c::cs=>by
  have:=pK cs
  simp only[AV.aK]at this
  simp only[AV.cL,AV.aK,List.all_cons,zF,this]
theorem vY:∀(rows:List (List AV)),(rows.map AV.cL).flatten=AV.cL rows.flatten
 |[]=>rfl
 |r::rows=>by
  have agU:∀a b:List AV,AV.cL (a++b)=AV.cL a++AV.cL b:=by
   intro a b
   induction a with
   |nil=>rfl
   |cons x a ih=>simp only[List.cons_append,AV.cL,ih]
  simp only[List.map_cons,List.flatten_cons,agU,vY rows]
theorem DW(l:List UInt8):(eI l).flatten=l.map λb=>AV.int .u8 b.toNat:=by
 unfold eI
 induction l with
 |nil=>rfl
 |cons b l ih=>simp only[List.map_cons,List.flatten_cons,ih];rfl
theorem uV{st:aj}(hI:iH w G st){a:AV}{v:Value}{rows:List (List AV)}(h:aO w G a v)(hb:dG st a=some rows){sz:Nat}(hf:bU sz rows=true){tx:TypeId}
  (hk:(∃e',P.underlying tx=some (.slice e'))\/P.underlying tx=some .string) :
  ∃xs,cj w G rows.flatten xs/\Go.Src P sz tx v rows.length xs w/\(∀r∈rows,AV.aK r=true)/\(∀r∈rows,AV.dH r=true)/\((∀id bX,a≠.mu id bX)->∀r∈rows,AV.ah r=true):=by
 have slice:∀(ad:Addr) (c:Nat) (xs:List Value),ad.spot=none->cj w G rows.flatten xs->(∀(k:Nat) x,xs[k]?=some x->w.cell? ⟨ad.block,ad.off+k,none⟩=some x)->(∀r∈rows,AV.aK r=true)->
   Go.Src P sz tx (.slice (some ad) rows.length c) rows.length xs w:=by
  intro ad c xs oG dy hx iA
  have hl:xs.length=rows.length*sz:=by rw[<-dy.1];exact eX rows (cn.1 hf)
  obtain⟨bl,of,sp⟩:=ad
  simp only at oG hx
  subst oG
  have Wg:∀j u,xs[j]?=some u->w.cell? ((⟨bl,of,none⟩:Addr).add j)=some u:=λj u h=>by rw[kq];exact hx j u h
  have O2:∀u∈xs,u.oneCell'=true:=dy.TB (by
   simp only[AV.aK,List.all_eq_true]
   intro c hc
   obtain⟨r,hr,hc⟩:=List.mem_flatten.1 hc
   have:=iA r hr
   simp only[AV.aK,List.all_eq_true]at this
   exact this c hc)
  exact⟨hk,λ_=>rfl,run_firstCells_some w sz rows.length ⟨bl,of,none⟩ rows.length c xs hl Wg,run_firstCells_some w.drew sz rows.length ⟨bl,of,none⟩ rows.length c xs hl (by simpa using Wg),hl,O2⟩
 have dj:∀s,aO w G (.dj s rows) v->∃xs,cj w G rows.flatten xs/\Go.Src P sz tx v rows.length xs w/\(∀r∈rows,AV.aK r=true)/\(∀r∈rows,AV.dH r=true)/\((∀id bX,a≠.mu id bX)->∀r∈rows,AV.ah r=true):=by
  intro s h
  have h0:∃a n c,v=.slice (some a) n c:=by cases h;exact⟨_,_,_,rfl⟩
  obtain⟨ad,n,c,rfl⟩:=h0
  obtain⟨e1,e2,e3,e4,e5,e6,xs,e7,e8⟩:=G7 h
  subst e1
  exact⟨xs,e7,slice ad c xs e2 e7 e8 e6,e6,e4,λ_=>e5⟩
 have Wk:rows=[]->∀c,v=.slice none 0 c->∃xs,cj w G rows.flatten xs/\Go.Src P sz tx v rows.length xs w/\(∀r∈rows,AV.aK r=true)/\(∀r∈rows,AV.dH r=true)/\((∀id bX,a≠.mu id bX)->∀r∈rows,AV.ah r=true):=by
  intro h0 c hv
  subst h0;subst hv
  exact⟨[],⟨rfl,λi c v h=>by simp at h⟩,⟨hk,λ_=>rfl,run_firstCells_none w sz 0 0 c,run_firstCells_none w.drew sz 0 0 c,by simp,λu hu=>by cases hu⟩,by simp,by simp,by simp⟩
 unfold dG at hb
 split at hb
 ·rename_i l
  cases hb
  obtain⟨s,rfl,rfl⟩:=h.lB
  refine⟨byteCells s,?_,?_,?_,?_,?_⟩
  ·rw[DW]
   unfold byteCells
   refine⟨by simp,λi c v h1 h2=>?_⟩
   simp only[List.getElem?_map,Option.map_eq_some_iff]at h1 h2
   obtain⟨b,h1,rfl⟩:=h1
   obtain⟨b',h2,rfl⟩:=h2
   rw[h1]at h2;cases h2
   exact .int _ _
  ·have hlen:(eI s.data.toList).length=s.size:=by simp[eI]
   rw[hlen]
   have one:∀u∈byteCells s,u.oneCell'=true:=λu hu=>by
    obtain⟨_,_,rfl⟩:=List.mem_map.1 hu
    rfl
   by_cases hs:sz=1
   ·subst hs
    exact⟨hk,λ_=>rfl,firstCells_string s w,firstCells_string s w.drew,by rw[byteCells_length,Nat.mul_one],one⟩
   ·have h0:s.size=0:=by
     rcases Nat.eq_zero_or_pos s.size with h|h
     ·exact h
     ·have h2:s.data.toList≠[]:=by
       intro h3
       have:s.data.toList.length=s.size:=by simp
       rw[h3]at this;simp at this;omega
      obtain⟨b,l,hl⟩:=List.exists_cons_of_ne_nil h2
      rw[hl]at hf
      simp[bU,eI]at hf
      exact absurd hf.1.symm hs
    have yH:byteCells s=[]:=by
     apply List.eq_nil_of_length_eq_zero
     rw[byteCells_length,h0]
    have TR:∀w',(Builtin.firstCells sz s.size (.string s)).run P w'=.ok (byteCells s).toArray w':=λw'=>firstCells_string s w'
    exact⟨hk,λ_=>rfl,TR w,TR w.drew,by rw[yH,h0,Nat.zero_mul];rfl,one⟩
  all_goals
   intros
   rename_i hr
   simp only[eI,List.mem_map]at hr
   obtain⟨b,_,rfl⟩:=hr
   simp[AV.aK,AV.cH,AV.dH,AV.bZ,AV.ah,AV.an]
 ·rename_i id bX
  split at hb
  ·rename_i dN hr
   cases hb
   simp only[eC]at hr
   split at hr
   ·rename_i v' s agV fh
    split at hr
    ·rename_i hv
     cases hr
     obtain⟨loc,hl,zz,yw,gQ⟩:=hI.loc fh
     cases h with
     |mu _ _ _ loc' hp oc Dm he=>
      rw[hl]at oc;cases oc
      have hve:bX=loc.bX:=by omega
      have cJ:=he hve
      rw[gQ.len]at cJ
      have iA:∀r∈dN.map AV.cL,AV.aK r=true:=λr hr=>by
       obtain⟨r',vM,rfl⟩:=List.mem_map.1 hr
       rw[pK];exact gQ.AE r' vM
      have iP:∀r∈dN.map AV.cL,AV.dH r=true:=λr hr=>by
       obtain⟨r',vM,rfl⟩:=List.mem_map.1 hr
       exact fR r'
      rcases gQ.oe with⟨h0,qQ,_⟩|⟨b,off,c,e',JB,fo,eS,hle,hlen,gV,dw⟩
      ·subst qQ
       simp only[List.length_nil]at cJ
       cases ab8:loc.a with
       |none=>
        rw[ab8]at cJ
        exact Wk (by simp) _ cJ
       |some ad=>
        refine⟨[],⟨rfl,λi c v h=>by simp at h⟩,⟨hk,λ_=>by rw[cJ];simp[Builtin.lenOf],?_,?_,by simp,by simp⟩,iA,iP,λh=>absurd rfl (h id bX)⟩
        all_goals
         rw[cJ,ab8]
         simp[Builtin.firstCells,loadCells,loadCellsFrom]
      ·rw[JB]at cJ
       subst cJ
       have dy:cj w G (dN.map AV.cL).flatten loc.vals.flatten:=by
        rw[vY]
        exact(rV dN loc.vals gQ.qO.symm gQ.rm).view
       have Lm:∀r∈loc.vals,r.length=s:=λr hr=>by
        obtain⟨i,hi,rfl⟩:=List.mem_iff_getElem.1 hr
        have oT:i<dN.length:=by rw[<-gQ.qO];exact hi
        rw[<-(gQ.rm i dN[i] loc.vals[i] (List.getElem?_eq_getElem oT) (List.getElem?_eq_getElem hi)).1]
        exact cn.1 gQ.Dp _ (List.getElem_mem oT)
       have:=slice ⟨b,off,none⟩ loc.cap loc.vals.flatten rfl dy (λk x hx=>by
        obtain⟨i,j,r,rfl,e2,e3⟩:=nO loc.vals k x Lm hx
        exact dw i r j x e2 e3) iA
       simp only[List.length_map]at this ⊢
       exact⟨_,dy,this,iA,iP,λh=>absurd rfl (h id bX)⟩
    ·cases hr
   ·cases hr
  ·cases hb
 ·rename_i hn1 hn2
  unfold eC at hb
  split at hb
  ·cases hb;cases h;exact Wk rfl _ rfl
  ·cases hb;cases h
   rename_i ad
   refine⟨[],⟨rfl,λi c v h=>by simp at h⟩,⟨hk,λ_=>rfl,?_,?_,by simp,by simp⟩,by simp,by simp,by simp⟩
   all_goals simp[Builtin.firstCells,loadCells,loadCellsFrom]
  ·cases hb;exact dj _ h
  ·cases hb;exact dj _ h.view
  ·rename_i id bX
   exact absurd rfl (hn2 id bX)
  ·cases hb
end Ax
namespace Ax
open Go
variable {P:Program}{w w':World}{G G':aM}{β gf:List lE}{ρ:Operand->Value}{o:Oper}
theorem gu(g p:Nat)(t:TypeId)(vs:List Value)(ey:Array Value)(w:World)(hg:w.heap[g]?=some (.cells ey t (0,0)))(hl:p+vs.length<=ey.size)(h1:∀v∈vs,v.oneCell'=true) :
  (storeCells ⟨g,p,none⟩ vs).run P w=.ok () (w.setRow g (af ey.toList p vs).toArray):=by
 have:=run_storeCells_at P g p t vs 0 ey w hg (by simpa using hl) h1
 rw[jn _ _ _ (by simpa using hl)]
 simpa using this
structure Wr (w:World)(G:aM)(w':World)(G':aM)(b:Nat):Prop where
 size:w'.heap.size=w.heap.size
 heap:∀b',b'≠b->w'.heap[b']?=w.heap[b']?
 TT:∀b',b'≠b->G'.kR b'=G.kR b'
 kR:∃p p',G.kR b=some p/\G'.kR b=some p'/\p<=p'/\∀o,o<p->w'.cell? ⟨b,o,none⟩=w.cell? ⟨b,o,none⟩
 Lb:∀(id:Nat) loc,G.ls[id]?=some loc->∃loc',G'.ls[id]?=some loc'/\loc.bX<=loc'.bX/\(loc.bX=loc'.bX\/loc.mp=true->loc'.hd=loc.hd)
theorem Wr.iR{b:Nat}(h:Wr w G w' G' b):qq w G w' G' where
 ON:=λb' o hi=>by
  by_cases hb:b'=b
  ·subst hb
   obtain⟨p,p',h1,h2,h3,h4⟩:=h.kR
   have ho:=hi.2 p h1
   refine⟨h4 o ho,by rw[h.size];exact hi.1,λq hq=>?_⟩
   rw[h2]at hq;cases hq;omega
  ·refine⟨oH (h.heap b' hb),by rw[h.size];exact hi.1,λp hp=>?_⟩
   rw[h.TT b' hb]at hp
   exact hi.2 p hp
 Lb:=h.Lb
theorem Wr.iT{b b':Nat}(h:Wr w G w' G' b)(hb:b'≠b):dL w G w' G' b':=⟨h.TT b' hb,h.heap b' hb⟩
theorem By(G:aM):∀(id:Nat) loc,G.ls[id]?=some loc->∃loc',G.ls[id]?=some loc'/\loc.bX<=loc'.bX/\(loc.bX=loc'.bX\/loc.mp=true->loc'.hd=loc.hd):=λ_ loc h=>⟨loc,h,Nat.le_refl _,λ_=>rfl⟩
def aM.at(G:aM)(id:Nat)(loc:j9):aM:=⟨G.ls.set id loc,G.kR⟩
theorem Bz{id:Nat}{loc loc':j9}(hl:G.ls[id]?=some loc)(hv:loc.bX<=loc'.bX)(hh:loc.bX=loc'.bX\/loc.mp=true->loc'.hd=loc.hd):∀(i:Nat) l,G.ls[i]?=some l->∃l',(G.at id loc').ls[i]?=some l'/\l.bX<=l'.bX/\(l.bX=l'.bX\/l.mp=true->l'.hd=l.hd):=by
 intro i l h
 by_cases hi:i=id
 ·subst hi
  rw[hl]at h;cases h
  exact⟨loc',by simp only[aM.at];rw[List.getElem?_set,if_pos rfl,if_pos (List.getElem?_eq_some_iff.1 hl).1],hv,hh⟩
 ·exact⟨l,by simp only[aM.at];rw[List.getElem?_set,if_neg (λe=>hi e.symm)];exact h,Nat.le_refl _,λ_=>rfl⟩
theorem JG{id:Nat}{loc loc':j9}(hl:G.ls[id]?=some loc)(hv:loc.bX<=loc'.bX)(hh:loc.bX=loc'.bX\/loc.mp=true->loc'.hd=loc.hd):qq w G w (G.at id loc'):=
 ⟨λ_ _ h=>⟨rfl,h⟩,Bz hl hv hh⟩
theorem AH{st:aj}(hI:iH w G st)(hs:qq w G w' G'){id:Nat}{loc':j9}{GG:fL}(JH:G'.ls=G.ls.set id loc')(hu:∀(i:Nat) l ob b,i≠id->G.ls[i]?=some l->st[i]?=some ob->0<gX b l ob->dL w G w' G' b)
  (ry:og w' G' GG loc')(ht:∀b p,G'.kR b=some p->b<w'.heap.size):iH w' G' (st.set id GG) where
 len:=by rw[JH];simp[hI.len]
 bC:=λi ob loc h1 h2=>by
  rw[JH]at h2
  rw[List.getElem?_set]at h1 h2
  by_cases hi:id=i
  ·subst hi
   rw[if_pos rfl]at h1 h2
   split at h1
   ·split at h2
    ·cases h1;cases h2;exact ry
    ·cases h2
   ·cases h1
  ·rw[if_neg hi]at h1 h2
   exact(hI.bC i ob loc h1 h2).iR hs λb hb=>hu i loc ob b (λe=>hi e.symm) h2 h1 hb
 lF:=ht
theorem tT{st:aj}(hI:iH w G st)(hs:qq w G w' G')(JH:G'.ls=G.ls)(hu:∀b,0<b6 b G.ls st->dL w G w' G' b)(ht:∀b p,G'.kR b=some p->b<w'.heap.size):iH w' G' st where
 len:=by rw[JH];exact hI.len
 bC:=λi ob loc h1 h2=>by
  rw[JH]at h2
  refine(hI.bC i ob loc h1 h2).iR hs λb hb=>hu b ?_
  have:=mm b G.ls st i loc ob h2 h1
  omega
 lF:=ht
theorem lP{bx:aU}(hB:jD w G β bx)(hs:qq w G w' G')(hu:∀b,0<fM b β bx->dL w G w' G' b):jD w' G' β bx where
 len:=hB.len
 box:=λj row g h1 h2=>(hB.box j row g h1 h2).iR hs λb hb=>hu b (by
  have:=mo b β bx j g row h2 h1
  omega)
theorem Wr.lF{b:Nat}{st:aj}(h:Wr w G w' G' b)(hI:iH w G st):∀b p,G'.kR b=some p->b<w'.heap.size:=by
 intro b' p hp
 rw[h.size]
 by_cases hb:b'=b
 ·subst hb
  obtain⟨q,q',h1,_⟩:=h.kR
  exact hI.lF _ _ h1
 ·rw[h.TT b' hb]at hp
  exact hI.lF _ _ hp
theorem BA{b p p':Nat}{ey:Array Value}{e:TypeId}{q:Nat}{vs:List Value}{ls:List j9}(hg:w.heap[b]?=some (.cells ey e (0,0)))(hl:q+vs.length<=ey.size)(ht:G.kR b=some p)(S6:p<=q)(hpp:p<=p')
  (Dw:∀(id:Nat) loc,G.ls[id]?=some loc->∃loc',ls[id]?=some loc'/\loc.bX<=loc'.bX/\(loc.bX=loc'.bX\/loc.mp=true->loc'.hd=loc.hd)) :
  Wr w G (w.setRow b (af ey.toList q vs).toArray) ⟨ls,λb'=>if b'=b then some p' else G.kR b'⟩ b where
 size:=setRow_size _ _ _
 heap:=λb' hb=>setRow_other w b b' _ hb
 TT:=λb' hb=>by simp[hb]
 kR:=⟨p,p',ht,by simp,hpp,λo ho=>by
  rw[cell_setRow_same w b o ey _ e (0,0) hg]
  have:w.cell? ⟨b,o,none⟩=ey[o]?:=by simp[World.cell?,hg]
  rw[this,List.getElem?_toArray,iS _ _ _ _ (by simpa using hl),if_neg (by omega)]
  simp⟩
 Lb:=Dw
theorem qx{b q k:Nat}{ey:Array Value}{e:TypeId}{vs:List Value}(hg:w.heap[b]?=some (.cells ey e (0,0)))(hl:q+vs.length<=ey.size) :
  (w.setRow b (af ey.toList q vs).toArray).cell? ⟨b,k,none⟩=if q<=k/\k<q+vs.length then vs[k-q]? else w.cell? ⟨b,k,none⟩:=by
 rw[cell_setRow_same w b k ey _ e (0,0) hg]
 have:w.cell? ⟨b,k,none⟩=ey[k]?:=by simp[World.cell?,hg]
 rw[this,List.getElem?_toArray,iS _ _ _ _ (by simpa using hl)]
 simp
structure JI (P:Program)(t tx e:TypeId)(sz bytes:Nat)(i:TypeInfo)(z:Value):Prop where
 ht:P.underlying t=some (.slice e)
 hi:P.info? e=some i
 hz:i.zero=some z
 eH:i.size=sz
 TO:i.bytes=bytes
 OW:z.cells.size=sz
 pos:0<sz
 O3:0<bytes
 kind:(∃e',P.underlying tx=some (.slice e'))\/P.underlying tx=some .string
theorem Ln{n bytes:Nat}(h:n*bytes<=140737488355328)(hb:0<bytes):((n:Nat):Int)<=9223372036854775807:=by
 have:n<=n*bytes:=Nat.le_mul_of_pos_right n hb
 omega
theorem pL{t tx ty e:TypeId}{sz bytes:Nat}{i:TypeInfo}{z:Value}(h:JI P t tx e sz bytes i z)(b off fZ jM:Nat)(ey:Array Value)(e0:TypeId)(hg:w.heap[b]?=some (.cells ey e0 (0,0)))(x:Value)(n:Nat)(news:List Value)(hs:Go.Src P sz tx x n news w)
  (mR:fZ+n<=jM)(cm:off+jM*sz<=ey.size) :
  (Builtin.append_ #[t,tx] ty #[.slice (some ⟨b,off,none⟩) fZ jM,x]).run P w=.ok (.slice (some ⟨b,off,none⟩) (fZ+n) jM) (w.setRow b (af ey.toList (off+fZ*sz) news).toArray):=by
 have hle:off+fZ*sz+news.length<=ey.size:=by
  rw[hs.newsLen]
  have:(fZ+n)*sz<=jM*sz:=Nat.mul_le_mul_right _ mR
  rw[Nat.add_mul]at this
  omega
 have fh:=gu (P:=P) b (off+fZ*sz) e0 news ey w hg hle hs.one
 have hc:=hs.cells
 have eH:=h.eH
 subst eH
 rcases hs.kind with⟨e',hk⟩|hk<;>simp[Builtin.append_,run_underlying h.ht,run_underlying hk,Go.sizeOf,typeInfo,h.hi,hs.len,mR,hc,Addr.add_lit,fh]
theorem pM{t tx ty e:TypeId}{sz bytes:Nat}{i:TypeInfo}{z:Value}(h:JI P t tx e sz bytes i z)(base:Option Addr)(fZ jM:Nat)(olds:List Value)
  (hold:(Builtin.firstCells sz fZ (.slice base fZ jM)).run P w.drew=.ok olds.toArray w.drew)(Oo:olds.length=fZ*sz)(x:Value)(n:Nat)(news:List Value)(hs:Go.Src P sz tx x n news w)
  (hg:jM<fZ+n) (hb:(fZ+n)*bytes<=140737488355328) :
  ∃cap c,(Builtin.append_ #[t,tx] ty #[.slice base fZ jM,x]).run P w=.ok (.slice (some ⟨w.heap.size,0,none⟩) (fZ+n) cap) (w.drew.alloc (.cells c e))/\fZ+n<=cap/\cap*sz<=c.size/\
   ∀(k:Nat) v,(olds++news)[k]?=some v->c[k]?=some v:=by
 have eH:=h.eH
 subst eH
 have TO:=h.TO
 subst TO
 refine⟨_,_,run_append_grow_src w t tx ty e i z h.ht h.hi h.hz base fZ jM olds hold x n news hs hg (Ln hb h.O3) (growslice_fits hg hb),grownCap_ge _ _ _ _,?_,λk v hv=>?_⟩
 ·have h1:=grownCap_ge w (fZ+n) jM e
  rw[Array.size_append,size_zeroCells,h.OW]
  simp only[List.size_toArray,List.length_append,Oo,hs.newsLen]
  rw[<-Nat.add_mul,<-Nat.add_mul]
  exact Nat.mul_le_mul_right _ (by omega)
 ·have hk:=(List.getElem?_eq_some_iff.1 hv).1
  rw[Array.getElem?_append,if_pos (by simpa using hk)]
  simpa using hv
theorem DX(a:Addr):w.drew.cell? a=w.cell? a:=rfl
theorem cj.Dx{rows:List (List AV)}(h:∀r∈rows,AV.aK r=true):AV.aK rows.flatten=true:=by
 simp only[AV.aK,List.all_eq_true]
 intro c hc
 obtain⟨r,hr,hc⟩:=List.mem_flatten.1 hc
 have:=h r hr
 simp only[AV.aK,List.all_eq_true]at this
 exact this c hc
theorem tU{sz:Nat}{a b:List (List AV)}(h:bU sz a=true)(k:bU sz b=true):bU sz (a++b)=true:=by
 rw[cn]at *
 intro r hr
 rcases List.mem_append.1 hr with h'|h'
 ·exact h r h'
 ·exact k r h'
theorem nB{a b:List (List AV)}{p:List AV->Prop}(h:∀r∈a,p r)(k:∀r∈b,p r):∀r∈a++b,p r:=by
 intro r hr
 rcases List.mem_append.1 hr with h'|h'
 ·exact h r h'
 ·exact k r h'
theorem O4{t tx ty e:TypeId}{sz bytes:Nat}{i:TypeInfo}{z:Value}(h:JI P t tx e sz bytes i z){st:aj}{bx:aU}(hI:iH w G st)(hB:jD w G β bx){cO:Nat->Nat}(hX:∀b,cO b+fM b β bx+b6 b G.ls st<=1)
  {s x:AV}{vs vx:Value}(hs:aO w G s vs)(hx:aO w G x vx)(n5:∀b,fj b s vs<=cO b){wl aa:Nat}{bS:aj}{fm:aU}{r:eG}(ha:aL wl aa (.append sz bytes) [.val s,.val x] st bx=some (r,bS,fm)) :
  ∃v w' G',(Builtin.append_ #[t,tx] ty #[vs,vx]).run P w=.ok v w'/\iU w G β st bx cO w' G' β bS fm r v:=by
 simp only[aL]at ha
 split at ha
 ·cases ha
 ·rename_i new ry
  split at ha
  ·rename_i cm
   have hnm:∀id bX,x≠.mu id bX:=by
    intro id bX hx;subst hx;simp[dG,eC]at ry
   have ab9:dG st x=some new:=by
    unfold dG at ry ⊢
    cases x<;>simp_all [eC]
   obtain⟨news,dy,mP,iA,iP,nM⟩:=uV hI hx ab9 cm h.kind
   have nM:=nM hnm
   have fresh:∀base,(Builtin.firstCells sz 0 (.slice base 0 0)).run P w.drew=.ok ([]:List Value).toArray w.drew->new≠[]->new.length*bytes<=dQ->
     ∃v w' G',(Builtin.append_ #[t,tx] ty #[.slice base 0 0,vx]).run P w=.ok v w'/\iU w G β st bx cO w' G' β st bx (.val (.je sz new)) v:=by
    intro base hf ku hr
    have hn:0<new.length:=List.length_pos_iff.2 ku
    obtain⟨cap,c,e1,e2,e3,e4⟩:=pM (ty:=ty) h base 0 0 [] hf (by simp) vx new.length news mP (by omega) (by simpa [dQ] using hr)
    simp only[Nat.zero_add,List.nil_append]at e1 e2 e4
    obtain⟨G',hA⟩:=E8 (w':=w.drew.alloc (.cells c e)) (cO:=cO) hI hB rfl rfl rfl cm iA iP nM dy e3 e2 e4
    exact⟨_,_,G',e1,hA⟩
   split at ha
   ·split at ha
    ·rename_i yI
     cases ha
     have h0:new=[]:=by simpa using yI
     subst h0
     cases hs
     have hn:news=[]:=by
      have:=dy.1;simp at this;exact List.eq_nil_of_length_eq_zero this.symm
     subst hn
     have:=run_append_nothing w t tx ty e i h.ht h.hi none 0 0 (Nat.le_refl _) vx (by rw[h.eH];exact mP)
     exact⟨_,_,_,this,iU.lO hI hB (aO.U) λb=>by simp[cv,fj]⟩
    ·rename_i yI
     split at ha
     ·rename_i hr
      cases ha
      cases hs
      exact fresh none (run_firstCells_none _ _ _ _ _) (by simpa using yI) hr
     ·cases ha
   ·split at ha
    ·rename_i yI
     cases ha
     have h0:new=[]:=by simpa using yI
     subst h0
     have hn:news=[]:=by
      have:=dy.1;simp at this;exact List.eq_nil_of_length_eq_zero this.symm
     subst hn
     cases hs with
     |kV a=>
     have:=run_append_nothing w t tx ty e i h.ht h.hi (some a) 0 0 (Nat.le_refl _) vx (by rw[h.eH];exact mP)
     exact⟨_,_,_,this,iU.lO hI hB (aO.kV a) λb=>by simp[cv,fj]⟩
    ·rename_i yI
     split at ha
     ·rename_i hr
      cases ha
      cases hs with
      |kV a=>
      exact fresh (some a) (by simp[Builtin.firstCells,loadCells,loadCellsFrom]) (by simpa using yI) hr
     ·cases ha
   ·rename_i jf old
    split at ha
    ·rename_i hc
     simp only[Bool.and_eq_true,decide_eq_true_eq]at hc
     obtain⟨rfl,hr⟩:=hc
     cases ha
     have hv:=hs.view
     cases hs with
     |je _ _ a cap oG fo hfo XI acd ace yH O5 gV ff=>
     simp only[AV.view]at hv
     obtain⟨_,_,_,_,_,_,olds,hro,hxo⟩:=G7 hv
     obtain⟨b,off,sp⟩:=a
     simp only at oG gV ff hxo
     subst oG
     have Oo:olds.length=old.length*jf:=by rw[<-hro.1];exact eX old (cn.1 hfo)
     have Oq:news.length=new.length*jf:=mP.newsLen
     have ji:=tU hfo cm
     have qy:(old++new).flatten=old.flatten++new.flatten:=List.flatten_append
     by_cases mR:old.length+new.length<=cap
     ·obtain⟨c,e0,hg,Wl⟩:=ff
      have hle:off+old.length*jf+news.length<=c.size:=by
       rw[Oq]
       have:(old.length+new.length)*jf<=cap*jf:=Nat.mul_le_mul_right _ mR
       rw[Nat.add_mul]at this
       omega
      have e1:=pL (ty:=ty) h b off old.length cap c e0 hg vx new.length news mP mR Wl
      have hW:Wr w G (w.setRow b (af c.toList (off+old.length*jf) news).toArray) ⟨G.ls,λb'=>if b'=b then some (off+(old++new).length*jf) else G.kR b'⟩ b:=
       BA hg hle gV (Nat.le_refl _) (by rw[List.length_append,Nat.add_mul];omega) (By G)
      have kW:cO b=1/\fM b β bx=0/\b6 b G.ls st=0:=by
       have h1:=hX b
       have h2:=n5 b
       simp only[fj,if_true]at h2
       omega
      have G8:∀b',b'≠b->dL w G _ _ b':=λb' hb=>hW.iT hb
      refine⟨_,_,⟨G.ls,λb'=>if b'=b then some (off+(old++new).length*jf) else G.kR b'⟩,e1,?_⟩
      have acf:cj (w.setRow b (af c.toList (off+old.length*jf) news).toArray) ⟨G.ls,λb'=>if b'=b then some (off+(old++new).length*jf) else G.kR b'⟩ (old++new).flatten (olds++news):=by
       rw[qy]
       refine(hro.append dy).mono hW.iR λb' lN=>?_
       rw[<-qy,dn b' _ _ ((cy _).2 λx hx=>?_)]at lN
       ·omega
       ·obtain⟨r,hr,hx⟩:=List.mem_flatten.1 hx
        exact(cy r).1 (nB XI iP r hr) x hx
      have eS:=setRow_heap w b c (af c.toList (off+old.length*jf) news).toArray e0 (0,0) hg
      have XH:=E7 (cap:=cap) ji (nB ace iA) (nB XI iP) (nB acd nM) acf eS (by rw[List.size_toArray,dx];simpa using Wl) (by simpa using mR) (by simp) (λk x hk=>by
       rw[List.getElem?_toArray,iS _ _ _ _ (by simpa using hle)]
       by_cases G9:k<olds.length
       ·rw[List.getElem?_append_left G9]at hk
        rw[if_neg (by omega)]
        have:=hxo k x hk
        simpa [World.cell?,hg] using this
       ·rw[List.getElem?_append_right (by omega)]at hk
        have bn:=(List.getElem?_eq_some_iff.1 hk).1
        rw[if_pos (by omega)]
        rw[show off+k-(off+old.length*jf)=k-olds.length by omega]
        exact hk)
      refine⟨hW.iR,tT hI hW.iR rfl (λb' lN=>G8 b' ?_) (hW.lF hI),lP hB hW.iR λb' lN=>G8 b' ?_,by rw[<-List.length_append];exact XH,λb'=>?_,λb' lN _=>G8 b' ?_,by simp,rfl,rfl⟩
      ·intro e;subst e;omega
      ·intro e;subst e;omega
      ·have h2:=n5 b'
       simp only[fj]at h2
       simp only[cv,fj]
       omega
      ·intro e;subst e;omega
     ·have vM:(old.length+new.length)*bytes<=140737488355328:=hr
      have hf:(Builtin.firstCells jf old.length (.slice (some ⟨b,off,none⟩) old.length cap)).run P w.drew=.ok olds.toArray w.drew:=
       run_firstCells_some w.drew jf old.length ⟨b,off,none⟩ old.length cap olds Oo (λj v hj=>by rw[kq,DX];exact hxo j v hj)
      obtain⟨MQ,c,e1,e2,e3,e4⟩:=pM (ty:=ty) h (some ⟨b,off,none⟩) old.length cap olds hf Oo vx new.length news mP (by omega) vM
      rw[<-List.length_append]at e1 e2
      obtain⟨G',hA⟩:=E8 (w':=w.drew.alloc (.cells c e)) (cO:=cO) hI hB rfl rfl rfl ji (nB ace iA) (nB XI iP) (nB acd nM) (by rw[qy];exact hro.append dy) e3 e2 e4
      exact⟨_,_,G',e1,hA⟩
    ·cases ha
   ·cases ha
  ·cases ha
end Ax
