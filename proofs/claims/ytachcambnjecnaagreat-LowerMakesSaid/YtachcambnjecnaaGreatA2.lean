/- Part of a proof. -/
import Derived.Test.YtachcambnjecnaaGreatA1
import Derived.Laws.Tables
import Derived.Laws.Cells
import Derived.Laws.CopyRow
import Derived.Great.BuildSlice
import Derived.Laws.MakeOwn
import Derived.Carry
import Derived.Deep.Upon

namespace Ax
open Go
variable {P:Program}{w:World}{G:bp}{β:List m9}{ρ:Operand->Value}{o:Oper}
theorem C6{c:Call}{x y:Operand}(h:c.args.toList=[x,y]):c.args = #[x,y]:=by
 have:=congrArg List.toArray h;simpa using this
theorem yC{x:Operand}(ho:o.op=.nilCheck x){a:Addr}(hx:ρ x=.pointer (some a)):(execOp ρ o).run P w=.ok (.value (ρ x)) w:=by
 simp only[execOp,ho,hx];rfl
theorem NO{x:Operand}{i:Nat}(ho:o.op=.extract x i){vs:List AV}{v:AV}(hv:vs[i]?=some v)(ha:bC w G (.fm vs) (ρ x)) :
  ∃u,(execOp ρ o).run P w=.ok (.value u) w/\bC w G v u/\∀b,gu b v u<=gu b (.fm vs) (ρ x):=by
 generalize hx:ρ x=xv at ha;cases ha with
 |fm _ us hl hh=>
  have hi:i<vs.length:=(List.getElem?_eq_some_iff.1 hv).1;have rV:i<us.size:=by omega
  refine⟨us[i],?_,hh i v us[i] hv (by simp[rV]),λb=>?_⟩;simp only[execOp,ho,hx];simp[Instr.extract,rV];simp only[gu];exact vG b vs us.toList i v us[i] hv (by simp[rV])
theorem ri{cs r:List AV}{k n:Nat}(h:cut cs k n=some r):r=(cs.drop k).take n/\k+n<=cs.length/\r.length=n:=by
 unfold cut at h;split at h;cases h;exact⟨rfl,by assumption,by simp;omega⟩;cases h
theorem yD{t:TypeId}{b:Bool}(h:nN P t=some b)(w:World):(isAgg t).run P w=.ok b w:=by
 unfold nN at h;split at h;rename_i hu;cases h;simp[isAgg,run_underlying hu];rename_i hu;cases h;simp[isAgg,run_underlying hu];rename_i d h1 h2 hu;cases h;cases d<;>simp_all [isAgg,run_underlying hu];cases h
theorem Cw{agg:Bool}{r:List AV}{v:AV}(h:bP agg r=some v){xs:List Value}(hx:cF w G r xs) :
  ∃u,(if agg then .agg xs.toArray else xs.headD undef)=u/\bC w G v u/\(∀b,gu b v u=cu b r xs)/\(agg=false->∃c x,r=[c]/\xs=[x]/\v=c/\u=x):=by
 refine⟨_,rfl,?_⟩;unfold bP at h;cases agg with
 |true=>
  simp only[if_true,Option.some.injEq]at h;subst h;refine⟨.agg _ _ (by simpa using hx.1) λi c v hc hv=>hx.2 i c v hc (by simpa using hv),λb=>by simp[gu],by simp⟩
 |false=>
  simp only[Bool.false_eq_true,if_false]at h;split at h;rename_i c;cases h;match xs,hx with
  |[x],hx=>exact⟨hx.2 0 v x rfl rfl,λb=>by simp[cu],λ_=>⟨v,x,rfl,rfl,rfl,rfl⟩⟩|[],hx=>simp[cF]at hx|_::_::_,hx=>simp[cF]at hx
  cases h
theorem T8(vs:Array Value)(off n:Nat):vs.extract off (off+n)=((vs.toList.drop off).take n).toArray:=by
 apply Array.ext';simp[Array.toList_extract,List.extract]
theorem T9{t:TypeId}{x:Operand}{f:Nat}(ho:o.op=.field t x f){fs:Array Field}{fd:Field}(hu:P.underlying t=some (.struct fs))(hf:fs[f]?=some fd){off n:Nat}{agg:Bool}
  (acw:fd.offset=off)(hn:dz P fd.type n=true)(sL:nN P fd.type=some agg){cs r:List AV}{v:AV}(hc:cut cs off n=some r)(hv:bP agg r=some v)
  (ha:bC w G (.agg cs) (ρ x)):∃u,(execOp ρ o).run P w=.ok (.value u) w/\bC w G v u/\∀b,gu b v u<=gu b (.agg cs) (ρ x):=by
 generalize hx:ρ x=xv at ha;cases ha with
 |agg _ vs hl hh=>
  obtain⟨rfl,hle,hlen⟩:=ri hc;have hC:cF w G cs vs.toList:=⟨by simpa using hl,λi c v h1 h2=>hh i c v h1 (by simpa using h2)⟩;have hR:=(hC.drop off).take n;obtain⟨u,hu',h1,h2,h3⟩:=Cw hv hR;refine⟨u,?_,h1,λb=>?_⟩;simp only[execOp,ho,hx];simp only[Instr.field,Sem.run_bind,run_underlying hu,Result.andThen_ok,hf,asAgg,Sem.run_pure,part,yD sL,acw];cases agg with
  |true=>
   simp only[if_true]at hu';subst hu';simp[fo hn,T8]
  |false=>
   obtain⟨c,y,e1,e2,e3,e4⟩:=h3 rfl;have hy:vs[off]?=some y:=by
    have:=congrArg (·[0]?) e2;simp only[List.getElem?_take,List.getElem?_drop]at this;split at this;simpa using this;simp at this
   simp[hy,e4]
  rw[h2];simp only[gu];have a1:=NN b n (cs.drop off) (vs.toList.drop off) (by simp;omega);have a2:=FF b off cs vs.toList (by simpa using hl);omega
theorem GQ{place:Nat->Option (Nat×Nat)}:∀(ps:List (Nat×Value))(qs:List (Nat×Nat))(vs:List AV)(zero cs:List AV)(zc:Array Value),iV zero qs vs=some cs->cF w G zero zc.toList->
  cF w G vs (ps.map (·.2))->(∀(i:Nat) p q,ps[i]?=some p->qs[i]?=some q->place p.1=some q)->
  ∃cells,Instr.fill place zc ps=some cells/\cF w G cs cells.toList/\∀b,cu b cs cells.toList<=cu b zero zc.toList+cu b vs (ps.map (·.2))
 |[],qs,vs,zero,cs,zc,h,hz,hv,hp=>by
  cases vs with
  |nil=>
   cases qs with
   |nil=>simp[iV]at h;subst h;exact⟨zc,rfl,hz,λb=>by omega⟩|cons q qs=>simp[iV]at h
  |cons v vs=>simp[cF]at hv
 |p::ps,qs,vs,zero,cs,zc,h,hz,hv,hp=>by
  cases vs with
  |nil=>simp[cF]at hv|cons v vs=>
   cases qs with
   |nil=>simp[iV]at h|cons q qs=>
    obtain⟨off,n⟩:=q;simp only[iV]at h;split at h;rename_i hc;simp only[Bool.and_eq_true,decide_eq_true_eq]at hc;obtain⟨Mm,acw⟩:=hc;have Pp:=hp 0 p (off,n) rfl rfl;have Yf:bC w G v p.2:=hv.2 0 v p.2 rfl rfl;obtain⟨KC,Mn⟩:=Yf.cells;have dF:p.2.cells.size=n:=(by have:=KC.1;simp at this;omega);have Yg:zc.size=zero.length:=(by have:=hz.1;simp at this;omega);have Mo:=KB off p.2.cells.toList zc (by simp;omega);have B9:cF w G (ag zero off v.cells) (ag zc.toList off p.2.cells.toList):=hz.ag KC (by omega);have B8:cF w G vs (ps.map (·.2)):=⟨by have:=hv.1;simpa using this,λi c x h1 h2=>hv.2 (i+1) c x (by simpa using h1) (by simpa using h2)⟩;have step:Instr.fill place zc (p::ps)=Instr.fill place (p.2.cells.zipIdx.foldl (λcs (c,j)=>cs.setIfInBounds (off+j) c) zc) ps:=by
     obtain⟨pi,pv⟩:=p;simp only[Instr.fill];rw[Pp];simp only;rw[if_neg (by simp at dF ⊢;omega)]
    simp only[Array.toArray_toList]at Mo;obtain⟨cells,e1,e2,e3⟩:=GQ ps qs vs (ag zero off v.cells) cs _ h (by rw[Mo];exact B9) B8 (λi p q h1 h2=>hp (i+1) p q (by simpa using h1) (by simpa using h2));refine⟨cells,step.trans e1,e2,λb=>?_⟩;have h3:=e3 b;rw[Mo]at h3;have h4:=qZ b zero v.cells zc.toList p.2.cells.toList off hz.1 KC.1 (by omega);have h5:=Mn b;simp only[List.map_cons,cu];omega;cases h
theorem Bs{fs:Array Field}:∀{ps:List (Nat×Operand)}{qs:List (Nat×Nat)},qX P fs ps qs=true->ps.length=qs.length/\
  ∀(i:Nat) p q,ps[i]?=some p->qs[i]?=some q->∃f,fs[p.1]?=some f/\f.offset=q.1/\dz P f.type q.2=true
 |[],[],_=>⟨rfl,λi p q h _=>by simp at h⟩
 |(j,x)::ps,(off,n)::qs,h=>by
  simp only[qX,Bool.and_eq_true]at h;obtain⟨h1,h2⟩:=h;obtain⟨e1,e2⟩:=Bs h2;refine⟨by simp[e1],λi p q hp hq=>?_⟩;cases i with
  |zero=>
   simp at hp hq;subst hp;subst hq;split at h1;rename_i f hf;simp only[Bool.and_eq_true,beq_iff_eq]at h1;exact⟨f,hf,h1.1,h1.2⟩;cases h1
  |succ i=>exact e2 i p q (by simpa using hp) (by simpa using hq)
 |[],_::_,h=>by simp[qX]at h|_::_,[],h=>by simp[qX]at h
theorem oD{t:TypeId}{zero:List AV}(h:sI P t zero=true)(w:World)(G:bp) :
  ∃i z,P.info? t=some i/\i.zero=some z/\cF w G zero z.cells.toList/\(∀c∈zero,c.cC=true/\c.ax=true)/\AV.bq zero=true:=by
 unfold sI at h;split at h;rename_i i hi;split at h;rename_i z hz;simp only[Bool.and_eq_true]at h;obtain⟨e1,e2,e3⟩:=zk w G h.1;exact⟨i,z,hi,hz,⟨e1,e2⟩,e3,h.2⟩;cases h;cases h
theorem Ua{t:TypeId}{parts:Array (Nat×Operand)}(ho:o.op=.build t parts){fs:Array Field}(hu:P.underlying t=some (.struct fs)){is:List TypeInfo}(FG:fs.toList.mapM (λf=>P.info? f.type)=some is)
  {zero:List AV}{qs:List (Nat×Nat)}(hz:sI P t zero=true)(hp:qX P fs parts.toList qs=true){vs cs:List AV}(hc:iV zero qs vs=some cs)
  (hv:cF w G vs (parts.toList.map λp=>ρ p.2)):∃u,(execOp ρ o).run P w=.ok (.value u) w/\bC w G (.agg cs) u/\∀b,gu b (.agg cs) u<=cu b vs (parts.toList.map λp=>ρ p.2):=by
 obtain⟨i,z,hi,Ub,o8,NP,_⟩:=oD hz w G;obtain⟨Pp,hpp⟩:=Bs hp;have Uc:fs.toList.mapM (λf=>(P.info? f.type).map λi=>(f.offset,i.size))=some (List.zipWith (λf i=>(f.offset,i.size)) fs.toList is)/\fs.toList.length=is.length/\∀(k:Nat) f j,fs.toList[k]?=some f->is[k]?=some j->P.info? f.type=some j:=by
  generalize fs.toList=l at FG;induction l generalizing is with
  |nil=>simp at FG;subst FG;exact⟨rfl,rfl,λk f j h _=>by simp at h⟩|cons f l ih=>
   rw[List.mapM_cons]at FG;simp only[bind,Option.bind_eq_some_iff,pure,Option.some.injEq]at FG;obtain⟨j,hj,is',agP,rfl⟩:=FG;obtain⟨a1,a2,a3⟩:=ih agP;refine⟨?_,by simp[a2],λk g j' h1 h2=>?_⟩;rw[List.mapM_cons,a1];simp[hj];cases k with
   |zero=>simp at h1 h2;subst h1;subst h2;exact hj|succ k=>simp at h1 h2;exact a3 k g j' h1 h2
 obtain⟨hm,hlen,agQ⟩:=Uc;have GR:(parts.map λ(x:Nat×Operand)=>(x.1,ρ x.2)).toList.map (·.2)=parts.toList.map λp=>ρ p.2:=by simp[Function.comp_def]
 obtain⟨cells,e1,e2,e3⟩:=GQ (place:=((List.zipWith (λ(f:Field) (i:TypeInfo)=>(f.offset,i.size)) fs.toList is).toArray[·]?)) (parts.map λ(x:Nat×Operand)=>(x.1,ρ x.2)).toList qs vs zero cs z.cells hc o8
  (by rw[GR];exact hv) (by
   intro k p q h1 h2;simp only[Array.toList_map,List.getElem?_map,Option.map_eq_some_iff]at h1;obtain⟨p',h1,rfl⟩:=h1;obtain⟨f,g1,g2,g3⟩:=hpp k p' q h1 h2;obtain⟨j,g4,g5,_⟩:=nh g3;have hf:fs.toList[p'.1]?=some f:=(by simpa using g1);have hj:is[p'.1]?=some j:=by
    have aW:p'.1<is.length:=(by rw[<-hlen];exact(List.getElem?_eq_some_iff.1 hf).1);have:=agQ p'.1 f is[p'.1] hf (List.getElem?_eq_getElem aW);rw[g4]at this;cases this;exact List.getElem?_eq_getElem aW
   simp[List.getElem?_zipWith,hf,hj,g2,g5])
 have hb:P.built t (parts.map λ(x:Nat×Operand)=>(x.1,ρ x.2)).toList=some cells:=by
  unfold Program.built;rw[hi,hu];simp only[Ub,hm];exact e1
 refine⟨.agg cells,?_,.agg _ _ (by simpa using e2.1) λi c v h1 h2=>e2.2 i c v h1 (by simpa using h2),λb=>?_⟩;simp only[execOp,ho,Sem.run_bind];have:=run_build w t (parts.map λ(x:Nat×Operand)=>(x.1,ρ x.2)) cells hb;simp only[this,Result.andThen_ok,Sem.run_pure];have h1:=e3 b;have h2:cu b zero z.cells.toList=0:=eE b _ _ ((de zero).2 λc hc=>(NP c hc).1);rw[GR]at h1;simp only[gu];omega
end Ax
namespace Ax
open Go
variable {P:Program}{w:World}{G:bp}{β:List m9}{ρ:Operand->Value}{o:Oper}
theorem mN(b off n:Nat):(⟨b,off,none⟩:Addr).add n=⟨b,off+n,none⟩:=by
 unfold Addr.add;split<;>simp_all
theorem IB{t:TypeId}{f:Nat}{fs:Array Field}{fd:Field}{i:TypeInfo}(hu:P.underlying t=some (.struct fs))(hf:fs[f]?=some fd)(hi:P.info? fd.type=some i)(hs:i.size≠0)(a:Addr)(w:World) :
  (Instr.fieldAt t (.pointer (some a)) f).run P w=.ok (.pointer (some (a.add fd.offset))) w:=by
 have hc:P.cellsOf fd.type≠0:=by simp[Program.cellsOf,hi,hs]
 simp[Instr.fieldAt,run_underlying hu,hf,Instr.sureAddr,fieldPlace,run_sizeOf w hi,hc]
theorem vI{t:TypeId}{x:Operand}{f:Nat}(ho:o.op=.fieldAddr t x f){fs:Array Field}{fd:Field}{i:TypeInfo}(hu:P.underlying t=some (.struct fs))(hf:fs[f]?=some fd)(hi:P.info? fd.type=some i)(hs:i.size≠0)
  {a:Addr}(hx:ρ x=.pointer (some a)):(execOp ρ o).run P w=.ok (.value (.pointer (some (a.add fd.offset)))) w:=by
 simp only[execOp,ho,hx,Sem.run_bind,IB hu hf hi hs,Result.andThen_ok,Sem.run_pure]
theorem yb{p:AV}{v:Value}{off:Nat}{q:AV}(h:bC w G p v)
  (hq:(∃id cy i k,p=.ptr id cy i k/\q=.ptr id cy i (k+off))\/(∃sz rows i k,p=.qd sz rows i k/\q=.qd sz rows i (k+off))) :
  ∃a,v=.pointer (some a)/\bC w G q (.pointer (some (a.add off))):=by
 rcases hq with⟨id,cy,i,k,rfl,rfl⟩|⟨sz,rows,i,k,rfl,rfl⟩;cases h with
 |ptr _ _ _ _ _ loc hp hl hv he=>
  obtain⟨a,rfl⟩:=hp;refine⟨a,rfl,.ptr _ _ _ _ _ loc ⟨_,rfl⟩ hl hv λe=>?_⟩;obtain⟨a',h1,h2⟩:=he e;cases h2;exact⟨a',h1,by rw[mN];congr 3;omega⟩
 cases h with
 |qd _ _ _ _ a cap hs=>
  refine⟨_,rfl,?_⟩;rw[mN];have:=bC.qd (w:=w) (G:=G) sz rows i (k+off) a cap hs;rw[show a.off+(i*sz+k)+off=a.off+(i*sz+(k+off)) by omega];exact this
theorem Bt{t e:TypeId}{sz:Nat}(hu:P.underlying t=some (.slice e))(dF:dz P e sz=true){a:Addr}{len cap:Nat}{i:Int}(h0:0<=i)(h1:i<len)(w:World) :
  (Instr.indexAt t (.slice (some a) len cap) (.int .i64 i)).run P w=.ok (.pointer (some (a.add (i.toNat*sz)))) w:=by
 simp[Instr.indexAt,run_underlying hu,asIntOf,fo dF,h0,h1]
theorem IC{t e:TypeId}{x y:Operand}{sz:Nat}(ho:o.op=.indexAddr t x y)(hu:P.underlying t=some (.slice e))(dF:dz P e sz=true){st:aj}(hI:jQ w G st){a:AV}{i:Int}{bx gC:bF}{bV:aj}{r:fq}
  (h:aV 0 0 (.indexAddr sz) [.val a,.val (.int .i64 i)] st bx=some (r,bV,gC))(ha:bC w G a (ρ x))(hy:ρ y=.int .i64 i) :
  bV=st/\gC=bx/\∃p u,r=.val p/\(execOp ρ o).run P w=.ok (.value u) w/\bC w G p u/\p.cC=true:=by
 have pure:∀(s:Nat) (rows:List (List AV)) (v:Value),bC w G (.dL s rows) v->ρ x=v->s=sz->0<=i->i<rows.length->
   ∃u,(execOp ρ o).run P w=.ok (.value u) w/\bC w G (.qd sz rows i.toNat 0) u:=by
  intro s rows v hv KA hs h0 h1;subst hs;have FC:=hv;cases hv with
  |dL _ _ a cap nE g8=>
   refine⟨_,?_,.qd _ rows i.toNat 0 a cap FC⟩;simp only[execOp,ho,KA,hy,Sem.run_bind,Bt hu dF h0 (by exact_mod_cast h1),Result.andThen_ok,Sem.run_pure];obtain⟨b,off,spot⟩:=a;simp only at nE;subst nE;rw[mN];simp
 simp only[aV]at h;split at h<;>try (cases h;done)
 rename_i s rows;split at h;rename_i hc;cases h;simp only[Bool.and_eq_true,decide_eq_true_eq]at hc;obtain⟨u,h1,h2⟩:=pure s rows _ ha rfl hc.1.1 hc.1.2 hc.2;exact⟨rfl,rfl,_,u,rfl,h1,h2,rfl⟩;cases h;rename_i s rows;split at h;rename_i hc;cases h;simp only[Bool.and_eq_true,decide_eq_true_eq]at hc;obtain⟨u,h1,h2⟩:=pure s rows _ ha.view rfl hc.1.1 hc.1.2 hc.2;exact⟨rfl,rfl,_,u,rfl,h1,h2,rfl⟩;cases h;rename_i id cy;split at h;rename_i v s rows iu;split at h;rename_i hc;cases h;simp only[Bool.and_eq_true,decide_eq_true_eq]at hc;obtain⟨⟨⟨GS,hs⟩,h0⟩,h1⟩:=hc;subst GS;subst hs;obtain⟨loc,hl,T7⟩:=hI.loc iu;obtain⟨E2,Ca,jv⟩:=T7;generalize KA:ρ x=xv at ha;cases ha with
 |mu _ _ _ loc' hp sJ hv he=>
  rw[hl]at sJ;cases sJ;have hx:=he Ca.symm;rcases jv.sK with⟨_,sM,_⟩|⟨b,off,c,e',AL,g8,iC,hle,hlen,jz,fA⟩;subst sM;simp at h1;omega;rw[AL,jv.len]at hx;refine⟨rfl,rfl,_,_,rfl,?_,.ptr id v i.toNat 0 _ loc ⟨_,rfl⟩ hl (by omega) λ_=>⟨_,AL,rfl⟩,rfl⟩;simp only[execOp,ho,KA,hx,hy,Sem.run_bind,Bt hu dF h0 h1,Result.andThen_ok,Sem.run_pure];rw[mN,jv.size];simp
 cases h;cases h
theorem Ud{t:TypeId}{x y:Operand}(ho:o.op=.index t x y)(hu:P.underlying t=some .string){s:List UInt8}{i:Int}{b:UInt8}(h0:0<=i)(hb:s[i.toNat]?=some b)(ha:bC w G (.str s) (ρ x))(hy:ρ y=.int .i64 i) :
  (execOp ρ o).run P w=.ok (.value (.int .u8 b.toNat)) w:=by
 obtain⟨s',hx,rfl⟩:=ha.mT;have oE:s'[i.toNat]?=some b:=by
  have aW:i.toNat<s'.size:=by have:=(List.getElem?_eq_some_iff.1 hb).1;simpa using this
  have hd:s'.data[i.toNat]?=some b:=by simpa using hb
  have e:s'[i.toNat]?=s'.data[i.toNat]?:=rfl;rw[e];exact hd
 simp only[execOp,ho,hx,hy,Sem.run_bind];simp[Instr.index,run_underlying hu,asIntOf,h0,oE]
theorem ID{st:aj}(hI:jQ w G st){p:AV}{v:Value}{n:Nat}{cs:List AV}(hr:dM st p n=some cs)(hp:bC w G p v) :
  ∃b off xs,v=.pointer (some ⟨b,off,none⟩)/\xs.length=n/\cF w G cs xs/\∀(j:Nat) x,xs[j]?=some x->w.cell? ⟨b,off+j,none⟩=some x:=by
 have build:∀(r:List AV) (k b off:Nat),cut r k n=some cs->(∀(j:Nat) c,r[j]?=some c->∃x,w.cell? ⟨b,off+j,none⟩=some x/\bC w G c x)->
   ∃xs:List Value,xs.length=n/\cF w G cs xs/\∀(j:Nat) x,xs[j]?=some x->w.cell? ⟨b,off+k+j,none⟩=some x:=by
  intro r k b off hc qe;obtain⟨rfl,hle,hlen⟩:=ri hc;refine⟨(List.range n).map λj=>(w.cell? ⟨b,off+k+j,none⟩).getD undef,by simp,⟨by simp;omega,λj c x h1 h2=>?_⟩,λj x h=>?_⟩;rw[List.getElem?_take]at h1;split at h1;rw[List.getElem?_drop]at h1;obtain⟨y,e1,e2⟩:=qe _ c h1;simp only[List.getElem?_map,Option.map_eq_some_iff]at h2;obtain⟨j',h3,rfl⟩:=h2;have:j'=j:=by
   rw[List.getElem?_range (by assumption)]at h3;simpa using h3.symm
  subst this;rw[show off+k+j'=off+(k+j') by omega,e1];exact e2;cases h1;simp only[List.getElem?_map,Option.map_eq_some_iff]at h;obtain⟨j',h3,rfl⟩:=h;have hj:j<n:=by
   have:=(List.getElem?_eq_some_iff.1 h3).1;simpa using this
  have:j'=j:=by
   rw[List.getElem?_range hj]at h3;simpa using h3.symm
  subst this;have aW:k+j'<r.length:=by omega
  obtain⟨y,e1,e2⟩:=qe (k+j') r[k+j'] (List.getElem?_eq_getElem aW);rw[show off+k+j'=off+(k+j') by omega,e1]
  rfl
 unfold dM at hr;split at hr;rename_i id cy i k;split at hr;rename_i ve sz rows iu;split at hr;rename_i GS;subst GS;split at hr;rename_i r cZ;obtain⟨loc,hl,E2,Ca,jv⟩:=hI.loc iu;cases hp with
 |ptr _ _ _ _ _ loc' hpp sJ hv he=>
  rw[hl]at sJ;cases sJ;obtain⟨a,AL,rfl⟩:=he Ca.symm;rcases jv.sK with⟨_,sM,_⟩|⟨b,off,c,e',KD,g8,iC,hle,hlen,jz,fA⟩;subst sM;simp at cZ;rw[KD]at AL;cases AL;obtain⟨xs,h1,h2,h3⟩:=build r k b (off+i*sz) hr (λj c hc=>by
   obtain⟨x,e1,e2⟩:=jv.cell fA i r j c cZ hc;exact⟨x,by rw[show off+i*sz+j=off+(i*sz+j) by omega];exact e1,e2⟩)
  refine⟨b,off+(i*sz+k),xs,by rw[jv.size],h1,h2,λj x hx=>?_⟩;rw[show off+(i*sz+k)+j=off+i*sz+k+j by omega];exact h3 j x hx
 cases hr;cases hr;cases hr;rename_i sz rows i k;split at hr;rename_i r cZ;cases hp with
 |qd _ _ _ _ a cap hs=>
  cases hs with
  |dL _ _ _ _ nE g8 cJ jy qI wU hc vq=>
   obtain⟨xs,h1,h2,h3⟩:=build r k a.block (a.off+i*sz) hr (λj c Il=>by
    obtain⟨_,x,e1⟩:=hc i r j c cZ Il;exact⟨x,by rw[show a.off+i*sz+j=a.off+(i*sz+j) by omega];exact e1,vq i r j c x cZ Il e1⟩)
   refine⟨a.block,a.off+(i*sz+k),xs,rfl,h1,h2,λj x hx=>?_⟩;rw[show a.off+(i*sz+k)+j=a.off+i*sz+k+j by omega];exact h3 j x hx
 cases hr;cases hr
theorem C7{t:TypeId}{n:Nat}{agg:Bool}(hn:dz P t n=true)(sL:nN P t=some agg){b off:Nat}{xs:List Value}(hlen:xs.length=n)(mh:agg=false->n=1)
  (hc:∀(j:Nat) x,xs[j]?=some x->w.cell? ⟨b,off+j,none⟩=some x) :
  (Instr.loadAt t (.pointer (some ⟨b,off,none⟩))).run P w=.ok (if agg then .agg xs.toArray else xs.headD undef) w:=by
 cases agg with
 |true=>
  have:=run_loadCells_list (P:=P) w ⟨b,off,none⟩ xs (λj v h=>by rw[mN];exact hc j v h);rw[hlen]at this;simp[Instr.loadAt,Instr.sureAddr,loadVar,yD sL,fo hn,this]
 |false=>
  match xs,hlen,mh rfl with
  |[x],_,_=>
   have:=hc 0 x rfl;simp only[Nat.add_zero]at this;simp[Instr.loadAt,Instr.sureAddr,loadVar,yD sL,this]
  |[],h,h1=>simp at h;omega|_::_::_,h,h1=>simp at h;omega
theorem cF.view{as:List AV}{xs:List Value}(h:cF w G as xs):cF w G (AV.cq as) xs:=by
 refine⟨by rw[nM];exact h.1,λi c v hc hv=>?_⟩;rw[wV]at hc;simp only[Option.map_eq_some_iff]at hc;obtain⟨c',h1,rfl⟩:=hc;exact(h.2 i c' v h1 hv).view
theorem GU{t:TypeId}{x:Operand}{n:Nat}{agg:Bool}(ho:o.op=.load t x)(hn:dz P t n=true)(sL:nN P t=some agg)(mh:agg=false->n=1){b off:Nat}{xs:List Value}{cs:List AV}{v:AV}
  (hx:ρ x=.pointer (some ⟨b,off,none⟩))(hlen:xs.length=n)(hC:cF w G cs xs)(hc:∀(j:Nat) y,xs[j]?=some y->w.cell? ⟨b,off+j,none⟩=some y)(hv:bP agg cs=some v) :
  ∃u,(execOp ρ o).run P w=.ok (.value u) w/\bC w G v u/\∀d,gu d v u=cu d cs xs:=by
 obtain⟨u,hu,h1,h2,_⟩:=Cw hv hC;refine⟨u,?_,h1,h2⟩;simp only[execOp,ho,hx,Sem.run_bind,C7 hn sL hlen mh hc,Result.andThen_ok,Sem.run_pure,hu]
theorem KE{f:FuncId}{first lK:Array Operand}(hf:f<100000)(ho:o.op=.makeFunc (.func f) first lK){vs:List AV}(hv:cF w G vs ((first.toList++lK.toList).map ρ)) :
  (execOp ρ o).run P w=.ok (.value (.func (.func f) (first.map ρ) (lK.map ρ))) w/\
   bC w G (.fn f (AV.cq (vs.take first.size)) (AV.cq (vs.drop first.size))) (.func (.func f) (first.map ρ) (lK.map ρ)):=by
 refine⟨by simp only[execOp,ho,Sem.run_bind];rfl,?_⟩;have h1:=(hv.take first.size).view;have h2:=(hv.drop first.size).view;rw[List.map_append]at h1 h2;rw[List.take_left' (by simp)]at h1;rw[List.drop_left' (by simp)]at h2;refine .fn f _ _ _ _ (by simpa using h1.1) (by simpa using h2.1) ⟨gD _,gD _,hf⟩ (λi c v e1 e2=>h1.2 i c v e1 ?_) (λi c v e1 e2=>h2.2 i c v e1 ?_);simpa using e2;simpa using e2
end Ax
namespace Ax
open Go
variable {P:Program}{w:World}{G:bp}{β:List m9}{ρ:Operand->Value}{o:Oper}
def yE(ρ:Operand->Value)(x:Option Operand)(Yb a:Int):Prop:=(x=none/\a=Yb)\/∃y,x=some y/\ρ y=.int .i64 a
theorem nP{i:Int}{y:Nat}{c:BoundsCode}(h0:0<=i)(h1:i<=y)(w:World):(Instr.sliceBound (.int .i64 i) y c).run P w=.ok i.toNat w:=by
 simp[Instr.sliceBound,asIntOf,h0,h1]
theorem mU{wT:Bool}{len cap:Nat}{lo hi:Option Operand}{a b:Int}(ha:yE ρ lo 0 a)(hb:yE ρ hi len b)(h0:0<=a)(h1:a<=b)(h2:b<=cap)(w:World) :
  (Instr.sliceBounds wT len cap (lo.map ρ) (hi.map ρ) none).run P w=.ok (a.toNat,b.toNat,cap) w:=by
 rcases ha with⟨rfl,rfl⟩|⟨y,rfl,hy⟩<;>rcases hb with⟨rfl,rfl⟩|⟨z,rfl,hz⟩
 simp[Instr.sliceBounds];simp[Instr.sliceBounds,hz,nP (by omega:(0:Int)<=b) h2];simp[Instr.sliceBounds,hy,nP h0 h1];have hbn:((b.toNat:Nat):Int)=b:=by omega
 simp[Instr.sliceBounds,hy,hz,nP (by omega:(0:Int)<=b) h2,nP h0 (by rw[hbn];exact h1)]
theorem KF{t:TypeId}{x:Operand}{lo hi:Option Operand}(ho:o.op=.slice t x lo hi none)(hu:P.underlying t=some .string){s:List UInt8}{a b:Int}(hx:bC w G (.str s) (ρ x))
  (ha:yE ρ lo 0 a)(hb:yE ρ hi s.length b)(h0:0<=a)(h1:a<=b)(h2:b<=s.length) :
  ∃u,(execOp ρ o).run P w=.ok (.value u) w/\bC w G (.str ((s.take b.toNat).drop a.toNat)) u:=by
 obtain⟨s',WX,rfl⟩:=hx.mT;have hl:s'.data.toList.length=s'.size:=by simp
 rw[hl]at hb h2;refine⟨.string (s'.extract a.toNat b.toNat),?_,.str _ _ ?_⟩;simp only[execOp,ho,WX,Sem.run_bind];simp[Instr.sliceAt,Instr.slice,run_underlying hu,mU ha hb h0 h1 h2];rw[ByteArray.data_extract,Array.toList_extract];simp only[List.extract];rw[List.drop_take]
theorem NQ{sz:Nat}{rows:List (List AV)}(h:bN sz rows=true)(n m:Nat):bN sz ((rows.take n).drop m)=true:=by
 simp only[bN,List.all_eq_true]at h ⊢;exact λr hr=>h r (List.mem_of_mem_take (List.mem_of_mem_drop hr))
theorem Mp{rows:List (List AV)}{n m i:Nat}{r:List AV}(h:((rows.take n).drop m)[i]?=some r):rows[m+i]?=some r:=by
 rw[List.getElem?_drop,List.getElem?_take]at h;split at h;exact h;cases h
theorem Ue{sz:Nat}{rows:List (List AV)}{a:Addr}{len cap:Nat}(h:bC w G (.dL sz rows) (.slice (some a) len cap)){lo hi:Nat}(h1:lo<=hi)(h2:hi<=rows.length) :
  len=rows.length/\rows.length<=cap/\bC w G (.dL sz ((rows.take hi).drop lo)) (.slice (if cap=lo then some a else some (a.add (lo*sz))) (hi-lo) (cap-lo)):=by
 cases h with
 |dL _ _ _ _ nE g8 cJ jy qI wU hc hr=>
  refine⟨rfl,g8,?_⟩;have hlen:((rows.take hi).drop lo).length=hi-lo:=by simp;omega
  have AM:∀r∈(rows.take hi).drop lo,r∈rows:=λr hr=>List.mem_of_mem_take (List.mem_of_mem_drop hr);have NR:a.add (lo*sz)=⟨a.block,a.off+lo*sz,none⟩:=by
   obtain⟨b,off,spot⟩:=a;simp only at nE;subst nE;exact mN _ _ _
  split;rename_i Mm;have:(rows.take hi).drop lo=[]:=by apply List.eq_nil_of_length_eq_zero;omega
  rw[this];have h0:hi-lo=([]:List (List AV)).length:=by simp;omega
  rw[h0];exact .dL _ _ a _ nE (by simp) (by simp[bN]) (by simp) (by simp) (by simp) (λi r j c h _=>by simp at h) (λi r j c v h _=>by simp at h);rw[<-hlen];refine .dL _ _ _ _ (by rw[NR]) (by omega) (NQ cJ _ _) (λr h=>jy r (AM r h)) (λr h=>qI r (AM r h)) (λr h=>wU r (AM r h)) (λi r j c e1 e2=>?_) (λi r j c v e1 e2 e3=>?_);have:=hc _ r j c (Mp e1) e2;rw[NR];simp only;rw[show a.off+lo*sz+(i*sz+j)=a.off+((lo+i)*sz+j) by rw[Nat.add_mul];omega];exact this;rw[NR]at e3;simp only at e3;rw[show a.off+lo*sz+(i*sz+j)=a.off+((lo+i)*sz+j) by rw[Nat.add_mul];omega]at e3;exact hr _ r j c v (Mp e1) e2 e3
theorem C8{t e:TypeId}{x:Operand}{lo hi:Option Operand}(ho:o.op=.slice t x lo hi none)(hu:P.underlying t=some (.slice e)){sz:Nat}(dF:dz P e sz=true){rows:List (List AV)}{a b:Int}(hx:bC w G (.dL sz rows) (ρ x))
  (ha:yE ρ lo 0 a)(hb:yE ρ hi rows.length b)(h0:0<=a)(h1:a<=b)(h2:b<=rows.length) :
  ∃u,(execOp ρ o).run P w=.ok (.value u) w/\bC w G (.dL sz ((rows.take b.toNat).drop a.toNat)) u:=by
 have hx0:=hx;generalize KA:ρ x=xv at hx;have hs:∃ad len cap,xv=.slice (some ad) len cap:=by cases hx;exact⟨_,_,_,rfl⟩
 obtain⟨ad,len,cap,rfl⟩:=hs;obtain⟨e1,e2,e3⟩:=Ue hx (lo:=a.toNat) (hi:=b.toNat) (by omega) (by omega);subst e1;refine⟨_,?_,e3⟩;simp only[execOp,ho,KA,Sem.run_bind];simp only[Instr.sliceAt,Sem.run_bind,run_underlying hu,Result.andThen_ok,Instr.slice,Option.map_none,mU ha hb h0 h1 (by omega:b<=(cap:Int)),fo dF,Sem.run_pure];by_cases hc:cap=a.toNat<;>simp[hc]
theorem C9{t e:TypeId}{x:Operand}{lo hi mx:Option Operand}(ho:o.op=.slice t x lo hi mx)(hu:P.underlying t=some (.slice e)){sz:Nat}(dF:dz P e sz=true)(hx:bC w G .U (ρ x))
  (ha:yE ρ lo 0 0)(hb:yE ρ hi 0 0)(hm:mx=none\/∃z,mx=some z/\hi.isSome=true/\ρ z=.int .i64 0) :
  (execOp ρ o).run P w=.ok (.value (.slice none 0 0)) w:=by
 generalize KA:ρ x=xv at hx;cases hx;simp only[execOp,ho,KA,Sem.run_bind];rcases hm with rfl|⟨z,rfl,hh,hz⟩;have oE:yE ρ hi ((0:Nat):Int) 0:=hb;simp only[Instr.sliceAt,Sem.run_bind,run_underlying hu,Result.andThen_ok,Instr.slice,Option.map_none,mU (len:=0) (cap:=0) ha oE (by omega) (by omega) (by simp),fo dF,Sem.run_pure];simp;have key:(Instr.sliceBounds true 0 0 (lo.map ρ) (hi.map ρ) (some (ρ z))).run P w=.ok (0,0,0) w:=by
  rcases ha with⟨rfl,_⟩|⟨y,rfl,hy⟩<;>rcases hb with⟨rfl,_⟩|⟨y',rfl,WY⟩
  simp at hh;simp[Instr.sliceBounds,hz,WY,Instr.sliceBound,asIntOf];simp at hh;simp[Instr.sliceBounds,hz,hy,WY,Instr.sliceBound,asIntOf]
 simp only[Instr.sliceAt,Sem.run_bind,run_underlying hu,Result.andThen_ok,Instr.slice,Option.map_some,key,fo dF,Sem.run_pure];simp
theorem Bu{t e:TypeId}{x:Operand}{lo hi mx:Option Operand}(ho:o.op=.slice t x lo hi mx)(hu:P.underlying t=some (.slice e)){sz:Nat}(dF:dz P e sz=true)(hx:bC w G .mK (ρ x))
  (ha:yE ρ lo 0 0)(hb:yE ρ hi 0 0)(hm:mx=none\/∃z,mx=some z/\hi.isSome=true/\ρ z=.int .i64 0) :
  ∃u,(execOp ρ o).run P w=.ok (.value u) w/\bC w G .mK u:=by
 generalize KA:ρ x=xv at hx;obtain⟨ad,rfl⟩:∃ad,xv=.slice (some ad) 0 0:=by cases hx;exact⟨_,rfl⟩
 refine⟨_,?_,.mK ad⟩;simp only[execOp,ho,KA,Sem.run_bind];rcases hm with rfl|⟨z,rfl,hh,hz⟩;have oE:yE ρ hi ((0:Nat):Int) 0:=hb;simp only[Instr.sliceAt,Sem.run_bind,run_underlying hu,Result.andThen_ok,Instr.slice,Option.map_none,mU (len:=0) (cap:=0) ha oE (by omega) (by omega) (by simp),fo dF,Sem.run_pure];simp;have key:(Instr.sliceBounds true 0 0 (lo.map ρ) (hi.map ρ) (some (ρ z))).run P w=.ok (0,0,0) w:=by
  rcases ha with⟨rfl,_⟩|⟨y,rfl,hy⟩<;>rcases hb with⟨rfl,_⟩|⟨y',rfl,WY⟩
  simp at hh;simp[Instr.sliceBounds,hz,WY,Instr.sliceBound,asIntOf];simp at hh;simp[Instr.sliceBounds,hz,hy,WY,Instr.sliceBound,asIntOf]
 simp only[Instr.sliceAt,Sem.run_bind,run_underlying hu,Result.andThen_ok,Instr.slice,Option.map_some,key,fo dF,Sem.run_pure];simp
theorem Da{t e:TypeId}{x z:Operand}{lo hi:Option Operand}(ho:o.op=.slice t x lo hi (some z))(hu:P.underlying t=some (.slice e)){sz s:Nat}(dF:dz P e sz=true){rows:List (List AV)}(hx:bC w G (.dL s rows) (ρ x))
  (ha:yE ρ lo 0 0)(hb:yE ρ hi rows.length 0)(hh:hi.isSome=true)(hz:ρ z=.int .i64 0) :
  ∃u,(execOp ρ o).run P w=.ok (.value u) w/\bC w G .mK u:=by
 generalize KA:ρ x=xv at hx;have hs:∃ad len cap,xv=.slice (some ad) len cap:=by cases hx;exact⟨_,_,_,rfl⟩
 obtain⟨ad,len,cap,rfl⟩:=hs;refine⟨_,?_,.mK ad⟩;have key:(Instr.sliceBounds true len cap (lo.map ρ) (hi.map ρ) (some (ρ z))).run P w=.ok (0,0,0) w:=by
  rcases ha with⟨rfl,_⟩|⟨y,rfl,hy⟩<;>rcases hb with⟨rfl,_⟩|⟨y',rfl,WY⟩
  simp at hh;simp[Instr.sliceBounds,hz,WY,Instr.sliceBound,asIntOf];simp at hh;simp[Instr.sliceBounds,hz,hy,WY,Instr.sliceBound,asIntOf]
 simp only[execOp,ho,KA,Sem.run_bind];simp only[Instr.sliceAt,Sem.run_bind,run_underlying hu,Result.andThen_ok,Instr.slice,Option.map_some,key,fo dF,Sem.run_pure];simp
theorem run_checkKey{t:TypeId}{kk:SK}(ht:pG P t kk=true)(b:Bool)(n:Nat)(v:Value)(w:World):(Instr.checkKey b (n+1) t v).run P w=.ok () w:=by
 unfold pG at ht;cases kk<;>simp only at ht<;>split at ht<;>(try cases ht);all_goals (rename_i hu;simp[Instr.checkKey,run_underlying hu])
def yF(w:World)(G:bp)(es:List (AV×AV))(fs:List MapEntry):Prop:=
 fs.length=es.length/\∀(i:Nat) k v e,es[i]?=some (k,v)->fs[i]?=some e->bC w G k e.key/\bC w G v e.val/\v.cC=true/\k.cC=true
theorem yF.tail{x:AV×AV}{es:List (AV×AV)}{f:MapEntry}{fs:List MapEntry}(h:yF w G (x::es) (f::fs)):yF w G es fs:=
 ⟨by have:=h.1;simpa using this,λi k v e h1 h2=>h.2 (i+1) k v e (by simpa using h1) (by simpa using h2)⟩
theorem ua{t:TypeId}{d:TypeDesc}{kk:SK}(ht:pG P t kk=true)(hu:P.underlying t=some d){a b:AV}{x y:Value}{r:Bool}(h:AG kk a b=some r)(ha:bC w G a x)(hb:bC w G b y):Instr.sameNow d x y=some r:=by
 unfold AG at h;split at h;cases h;rw[ha.jT,hb.jT];simp only[pG,hu]at ht;split at ht;rename_i hd;cases hd;rfl;cases ht;split at h;rename_i k p l q hk;cases h;subst hk;rw[ha.jP,hb.jP];simp only[pG,hu]at ht;split at ht;rename_i hd;cases hd;simp[Instr.sameNow];cases ht;cases h;cases h;obtain⟨s,rfl,rfl⟩:=ha.mT;obtain⟨s',rfl,rfl⟩:=hb.mT;simp only[pG,hu]at ht;split at ht;rename_i hd;cases hd;simp only[Instr.sameNow,Option.some.injEq];rw[beq_toListBytes,ByteArray.toList_eq,ByteArray.toList_eq];cases ht;cases h
theorem uc{t:TypeId}{d:TypeDesc}{kk:SK}(ht:pG P t kk=true)(hu:P.underlying t=some d){k:AV}{x:Value}(hk:bC w G k x):∀(es:List (AV×AV))(fs:List MapEntry)(i:Nat)(r:Option AV),
  yF w G es fs->sd kk k es=some r->∃q,Instr.findNow d x fs i=some q/\
   (match r with
    |none=>q=none|some v=>∃j e,q=some (i+j,e.val)/\fs[j]?=some e/\bC w G v e.val/\v.cC=true)
 |[],[],i,r,_,h=>by simp[sd]at h;subst h;exact⟨none,rfl,rfl⟩|[],_::_,_,_,h,_=>by simp[yF]at h|_::_,[],_,_,h,_=>by simp[yF]at h|(a,v)::es,f::fs,i,r,hM,h=>by
  obtain⟨h1,h2,h3,_⟩:=hM.2 0 a v f rfl rfl;simp only[sd]at h;split at h;rename_i he;cases h;exact⟨some (i,f.val),by simp[Instr.findNow,ua ht hu he hk h1],0,f,rfl,rfl,h2,h3⟩;rename_i he;obtain⟨q,e1,e2⟩:=uc ht hu hk es fs (i+1) r hM.tail h;refine⟨q,by simp[Instr.findNow,ua ht hu he hk h1,e1],?_⟩;cases r with
  |none=>exact e2|some v'=>
   obtain⟨j,e,g1,g2,g3⟩:=e2;exact⟨j+1,e,by rw[g1,show i+1+j=i+(j+1) by omega],by simpa using g2,g3⟩
  cases h
theorem run_findKey{t:TypeId}{kk:SK}(ht:pG P t kk=true){k:AV}{x:Value}(hk:bC w G k x){es:List (AV×AV)}{fs:List MapEntry}{r:Option AV}(hM:yF w G es fs)(hf:sd kk k es=some r)(w':World) :
  ∃q,(Instr.findKey t x fs).run P w'=.ok q w'/\
   (match r with
    |none=>q=none|some v=>∃j e,q=some (j,e.val)/\fs[j]?=some e/\bC w G v e.val/\v.cC=true):=by
 have hu:∃d,P.underlying t=some d:=by
  unfold pG at ht;cases kk<;>simp only at ht<;>split at ht<;>(try cases ht)<;>exact⟨_,by assumption⟩
 obtain⟨d,hu⟩:=hu;obtain⟨q,e1,e2⟩:=uc ht hu hk es fs 0 r hM hf;refine⟨q,by simp[Instr.findKey,run_underlying hu,e1],?_⟩;cases r with
 |none=>exact e2|some v=>obtain⟨j,e,g1,g2⟩:=e2;exact⟨j,e,by simpa using g1,g2⟩
theorem PW{t kt et:TypeId}{m k:Operand}{ok:Bool}(ho:o.op=.lookup t m k ok)(hu:P.underlying t=some (.map kt et)){kk:SK}(ht:pG P kt kk=true){ie:TypeInfo}{z:Value}(hie:P.info? et=some ie)(hz:ie.zero=some z){zero:AV}(Yh:wX z zero=true)
  {st:aj}(hI:jQ w G st){am ak:AV}{es:List (AV×AV)}(jR:(am=.gn/\es=[])\/∃id,am=.map id/\st[id]?=some (.map es)){r:Option AV}(hf:sd kk ak es=some r)(hm:bC w G am (ρ m))(hk:bC w G ak (ρ k)) :
  ∃u,(execOp ρ o).run P w=.ok (.value u) w/\bC w G (if ok then .fm [r.getD zero,.bool r.isSome] else r.getD zero) u/\(r.getD zero).cC=true:=by
 obtain⟨hz1,hz2,_⟩:=yB Yh w G;have hzv:(zeroValue et).run P w=.ok z w:=by simp[zeroValue,typeInfo,hie,hz]
 have two:∀(v:AV) (x:Value) (b:Bool),bC w G v x->bC w G (if ok then .fm [v,.bool b] else v) (if ok=true then Value.tuple #[x,.bool b] else x):=by
  intro v x b hv;cases ok;exact hv;refine .fm _ _ rfl λi c y h1 h2=>?_;match i with
  |0=>simp at h1 h2;subst h1;subst h2;exact hv|1=>simp at h1 h2;subst h1;subst h2;exact .bool _|i+2=>simp at h1
 have lG:∀(fs:Array MapEntry),yF w G es fs.toList->∃x b,bC w G (r.getD zero) x/\b=r.isSome/\(r.getD zero).cC=true/\∃q,(Instr.findKey kt (ρ k) fs.toList).run P w=.ok q w/\((∃j,q=some (j,x)/\b=true)\/(q=none/\x=z/\b=false)):=by
  intro fs hM;obtain⟨q,e1,e2⟩:=run_findKey ht hk hM hf w;cases r with
  |none=>exact⟨z,false,hz1,rfl,hz2,q,e1,.inr ⟨e2,rfl,rfl⟩⟩|some v=>
   obtain⟨j,e,g1,g2,g3,g4⟩:=e2;exact⟨e.val,true,g3,rfl,g4,q,e1,.inl ⟨j,g1,rfl⟩⟩
 rcases jR with⟨rfl,rfl⟩|⟨id,rfl,iu⟩;generalize hmv:ρ m=mv at hm;cases hm;obtain⟨x,b,h1,rfl,h3,q,h4,h5⟩:=lG #[] ⟨rfl,λi k v e h _=>by simp at h⟩;refine⟨_,?_,two _ _ _ h1,h3⟩;have TN:=run_checkKey (w:=w) ht (#[]:Array MapEntry).isEmpty 9999 (ρ k);simp only[execOp,ho,hmv,Sem.run_bind];simp only[Instr.lookup,Sem.run_bind,run_underlying hu,Result.andThen_ok,Sem.run_pure,TN,h4];rcases h5 with⟨j,rfl,hb⟩|⟨rfl,rfl,hb⟩;simp[hb];simp[hb,hzv];generalize hmv:ρ m=mv at hm;obtain⟨loc,hl,T7⟩:=hI.loc iu;cases hm with
 |map _ loc' bk sJ E2 oE=>
  rw[hl]at sJ;cases sJ;obtain⟨g1,g2,b0,vC,clock,g3,g4,g5,g6,g7⟩:=T7;rw[oE]at g3;cases g3;obtain⟨x,b,h1,rfl,h3,q,h4,h5⟩:=lG vC ⟨by simpa using g6,λi k v e e1 e2=>g7 i k v e e1 (by simpa using e2)⟩;refine⟨_,?_,two _ _ _ h1,h3⟩;have TN:=run_checkKey (w:=w) ht vC.isEmpty 9999 (ρ k);have Uf:(getObj bk).run P w=.ok (.map vC clock) w:=by simp[getObj,Sem.run,g4]
  simp only[execOp,ho,hmv,Sem.run_bind];simp only[Instr.lookup,Sem.run_bind,run_underlying hu,Result.andThen_ok,Sem.run_pure,Uf,TN,h4];rcases h5 with⟨j,rfl,hb⟩|⟨rfl,rfl,hb⟩;simp[hb];simp[hb,hzv]
end Ax
namespace Ax
open Go
variable {P:Program}{w w':World}{G G':bp}{β:List m9}
def mC.jF(l:mC):Option Nat:=if l.cap=0 then none else l.a.map (·.block)
def iP(b:Nat):List (List AV)->List (List Value)->Nat
 |r::rs,x::xs=>cu b r x+iP b rs xs|_,_=>0
def je(b:Nat)(loc:mC):dy->Nat
 |.rows _ _ rows=>(if loc.jF=some b then 1 else 0)+iP b rows loc.vals|.map _=>if loc.jF=some b then 1 else 0
def cz(b:Nat):List mC->List dy->Nat
 |l::ls,o::st=>je b l o+cz b ls st|_,_=>0
def gT(b:Nat):List m9->List (List AV)->Nat
 |g::β,r::bx=>(if g.jF=some b then 1 else 0)+cu b r g.vals+gT b β bx|_,_=>0
theorem w6(b:Nat):∀(rs:List (List AV))(xs:List (List Value))(i:Nat) r x,rs[i]?=some r->xs[i]?=some x->cu b r x<=iP b rs xs
 |[],_,_,_,_,h,_=>by simp at h|_::_,[],_,_,_,_,h=>by simp at h|r::rs,x::xs,0,r',x',h,k=>by simp at h k;subst h;subst k;simp only[iP];omega|r::rs,x::xs,i+1,r',x',h,k=>by
  have:=w6 b rs xs i r' x' (by simpa using h) (by simpa using k);simp only[iP];omega
theorem tn(b:Nat):∀(rs:List (List AV))(xs:List (List Value))(i:Nat) r x r' x',rs[i]?=some r->xs[i]?=some x->
  iP b (rs.set i r') (xs.set i x')+cu b r x=iP b rs xs+cu b r' x'
 |[],_,_,_,_,_,_,h,_=>by simp at h|_::_,[],_,_,_,_,_,_,h=>by simp at h|r::rs,x::xs,0,r1,x1,r',x',h,k=>by simp at h k;subst h;subst k;simp only[List.set_cons_zero,iP];omega|r::rs,x::xs,i+1,r1,x1,r',x',h,k=>by
  have:=tn b rs xs i r1 x1 r' x' (by simpa using h) (by simpa using k);simp only[List.set_cons_succ,iP];omega
theorem Bv(b:Nat):∀(rs:List (List AV))(xs:List (List Value)),(∀r∈rs,AV.eY r=true)->iP b rs xs=0
 |[],_,_=>by simp[iP]|_::_,[],_=>by simp[iP]|r::rs,x::xs,h=>by
  simp only[iP,eE b r x (h r (by simp)),Bv b rs xs λr' hr=>h r' (by simp[hr])]
theorem pH(b:Nat):∀(ls:List mC)(st:List dy)(i:Nat) l o,ls[i]?=some l->st[i]?=some o->je b l o<=cz b ls st
 |[],_,_,_,_,h,_=>by simp at h|_::_,[],_,_,_,_,h=>by simp at h|l::ls,o::st,0,l',o',h,k=>by simp at h k;subst h;subst k;simp only[cz];omega|l::ls,o::st,i+1,l',o',h,k=>by
  have:=pH b ls st i l' o' (by simpa using h) (by simpa using k);simp only[cz];omega
theorem IE(b:Nat):∀(ls:List mC)(st:List dy)(i j:Nat) l o l' o',i≠j->ls[i]?=some l->st[i]?=some o->ls[j]?=some l'->st[j]?=some o'->je b l o+je b l' o'<=cz b ls st
 |[],_,_,_,_,_,_,_,_,h,_,_,_=>by simp at h|_::_,[],_,_,_,_,_,_,_,_,h,_,_=>by simp at h|l::ls,o::st,0,0,_,_,_,_,h,_,_,_,_=>absurd rfl h|l::ls,o::st,0,j+1,l1,o1,l2,o2,_,h1,h2,h3,h4=>by
  simp at h1 h2;subst h1;subst h2;have:=pH b ls st j l2 o2 (by simpa using h3) (by simpa using h4);simp only[cz];omega
 |l::ls,o::st,i+1,0,l1,o1,l2,o2,_,h1,h2,h3,h4=>by
  simp at h3 h4;subst h3;subst h4;have:=pH b ls st i l1 o1 (by simpa using h1) (by simpa using h2);simp only[cz];omega
 |l::ls,o::st,i+1,j+1,l1,o1,l2,o2,h,h1,h2,h3,h4=>by
  have:=IE b ls st i j l1 o1 l2 o2 (by omega) (by simpa using h1) (by simpa using h2) (by simpa using h3) (by simpa using h4);simp only[cz];omega
theorem vJ(b:Nat):∀(ls:List mC)(st:List dy)(i:Nat) l o l' o',ls[i]?=some l->st[i]?=some o->
  cz b (ls.set i l') (st.set i o')+je b l o=cz b ls st+je b l' o'
 |[],_,_,_,_,_,_,h,_=>by simp at h|_::_,[],_,_,_,_,_,_,h=>by simp at h|l::ls,o::st,0,l1,o1,l2,o2,h,k=>by simp at h k;subst h;subst k;simp only[List.set_cons_zero,cz];omega|l::ls,o::st,i+1,l1,o1,l2,o2,h,k=>by
  have:=vJ b ls st i l1 o1 l2 o2 (by simpa using h) (by simpa using k);simp only[List.set_cons_succ,cz];omega
theorem sx(b:Nat):∀(ls ls':List mC)(st bV:List dy),ls.length=st.length->cz b (ls++ls') (st++bV)=cz b ls st+cz b ls' bV
 |[],_,[],_,_=>by simp[cz]|[],_,_::_,_,h=>by simp at h|_::_,_,[],_,h=>by simp at h|l::ls,ls',o::st,bV,h=>by
  simp only[List.cons_append,cz];rw[sx b ls ls' st bV (by simpa using h)];omega
theorem nQ(b:Nat):∀(β:List m9)(bx:List (List AV))(i:Nat) g r,β[i]?=some g->bx[i]?=some r->(if g.jF=some b then 1 else 0)+cu b r g.vals<=gT b β bx
 |[],_,_,_,_,h,_=>by simp at h|_::_,[],_,_,_,_,h=>by simp at h|g::β,r::bx,0,g',r',h,k=>by simp at h k;subst h;subst k;simp only[gT];omega|g::β,r::bx,i+1,g',r',h,k=>by
  have:=nQ b β bx i g' r' (by simpa using h) (by simpa using k);simp only[gT];omega
theorem zn(b:Nat):∀(β:List m9)(bx:List (List AV))(i:Nat) g r g' r',β[i]?=some g->bx[i]?=some r->
  gT b (β.set i g') (bx.set i r')+((if g.jF=some b then 1 else 0)+cu b r g.vals)=gT b β bx+((if g'.jF=some b then 1 else 0)+cu b r' g'.vals)
 |[],_,_,_,_,_,_,h,_=>by simp at h|_::_,[],_,_,_,_,_,_,h=>by simp at h|g::β,r::bx,0,g1,r1,g2,r2,h,k=>by simp at h k;subst h;subst k;simp only[List.set_cons_zero,gT];omega|g::β,r::bx,i+1,g1,r1,g2,r2,h,k=>by
  have:=zn b β bx i g1 r1 g2 r2 (by simpa using h) (by simpa using k);simp only[List.set_cons_succ,gT];omega
theorem IF(b:Nat):∀(β:List m9)(bx:List (List AV))(i j:Nat) g r g' r',i≠j->β[i]?=some g->bx[i]?=some r->β[j]?=some g'->bx[j]?=some r'->
  ((if g.jF=some b then 1 else 0)+cu b r g.vals)+((if g'.jF=some b then 1 else 0)+cu b r' g'.vals)<=gT b β bx
 |[],_,_,_,_,_,_,_,_,h,_,_,_=>by simp at h|_::_,[],_,_,_,_,_,_,_,_,h,_,_=>by simp at h|l::ls,o::st,0,0,_,_,_,_,h,_,_,_,_=>absurd rfl h|l::ls,o::st,0,j+1,l1,o1,l2,o2,_,h1,h2,h3,h4=>by
  simp at h1 h2;subst h1;subst h2;have:=nQ b ls st j l2 o2 (by simpa using h3) (by simpa using h4);simp only[gT];omega
 |l::ls,o::st,i+1,0,l1,o1,l2,o2,_,h1,h2,h3,h4=>by
  simp at h3 h4;subst h3;subst h4;have:=nQ b ls st i l1 o1 (by simpa using h1) (by simpa using h2);simp only[gT];omega
 |l::ls,o::st,i+1,j+1,l1,o1,l2,o2,h,h1,h2,h3,h4=>by
  have:=IF b ls st i j l1 o1 l2 o2 (by omega) (by simpa using h1) (by simpa using h2) (by simpa using h3) (by simpa using h4);simp only[gT];omega
structure zo (w:World)(G:bp)(row:List AV)(g:m9):Prop where
 tU:cF w G row g.vals
 E1:AV.bq row=true
 sK:(g.jF=none/\row=[])\/∃b c e,g.jF=some b/\w.heap[b]?=some (.cells c e (0,0))/\row.length<=c.size/\G.mM b=some 0/\∀(k:Nat) x,g.vals[k]?=some x->w.cell? ⟨b,k,none⟩=some x
structure lH (w:World)(G:bp)(β:List m9)(bx:bF):Prop where
 len:β.length=bx.length
 box:∀(j:Nat) row g,bx[j]?=some row->β[j]?=some g->zo w G row g
def eR(w:World)(G:bp)(w':World)(G':bp)(b:Nat):Prop:=G'.mM b=G.mM b/\w'.heap[b]?=w.heap[b]?
theorem qn{b o:Nat}(h:w'.heap[b]?=w.heap[b]?):w'.cell? ⟨b,o,none⟩=w.cell? ⟨b,o,none⟩:=by simp[World.cell?,h]
theorem zo.jK{row:List AV}{g:m9}(h:zo w G row g)(hs:sH w G w' G')(hf:∀b,0<(if g.jF=some b then 1 else 0)+cu b row g.vals->eR w G w' G' b):zo w' G' row g where
 tU:=h.tU.mono hs λb hb=>hf b (by omega)
 E1:=h.E1
 sK:=by
  rcases h.sK with h|⟨b,c,e,h1,h2,h3,h4,h5⟩;exact .inl h;obtain⟨a1,a2⟩:=hf b (by simp[h1];omega);exact .inr ⟨b,c,e,h1,a2.trans h2,h3,a1.trans h4,λk x hx=>(qn a2).trans (h5 k x hx)⟩
theorem qY.jK{ob:dy}{loc:mC}(h:qY w G ob loc)(hs:sH w G w' G')(hf:∀b,0<je b loc ob->eR w G w' G' b):qY w' G' ob loc:=by
 cases ob with
 |rows cy sz rows=>
  obtain⟨h1,h2,h3⟩:=h;refine⟨h1,h2,h3.FE,h3.E1,h3.len,h3.size,h3.tj,λi r xs e1 e2=>?_,?_⟩;refine(h3.tZ i r xs e1 e2).mono hs λb hb=>hf b ?_;have:=w6 b rows loc.vals i r xs e1 e2;simp only[je];omega;rcases h3.sK with h|⟨b,off,c,e,g1,g2,g3,g4,g5,g6,g7⟩;exact .inl h;obtain⟨a1,a2⟩:=hf b (by
   have:loc.jF=some b:=by unfold mC.jF;rw[if_neg (by omega),g1];rfl
   simp[je,this];omega)
  exact .inr ⟨b,off,c,e,g1,g2,a2.trans g3,g4,g5,a1.trans g6,λi xs j x e1 e2=>(qn a2).trans (g7 i xs j x e1 e2)⟩
 |map es=>
  obtain⟨h1,h2,b,vC,clock,h3,h4,h5,h6,h7⟩:=h;obtain⟨a1,a2⟩:=hf b (by
   have:loc.jF=some b:=by unfold mC.jF;rw[if_neg (by omega),h3];rfl
   simp[je,this])
  refine⟨h1,h2,b,vC,clock,h3,a2.trans h4,a1.trans h5,h6,λi k v e e1 e2=>?_⟩;obtain⟨g1,g2,g3,g4⟩:=h7 i k v e e1 e2;exact⟨g1.jK hs λb hb=>by rw[fz b k _ g4]at hb;omega,g2.jK hs λb hb=>by rw[fz b v _ g3]at hb;omega,g3,g4⟩
theorem bC.held{a:AV}{v:Value}{b:Nat}(h:bC w G a v):0<gu b a v->b<w.heap.size:=by
 induction h with
 |agg cs vs hl h ih=>
  intro hb;simp only[gu]at hb;have key:∀(cs:List AV) (vs:List Value),0<cu b cs vs->∃(i:Nat) (c:AV) (v:Value),cs[i]?=some c/\vs[i]?=some v/\0<gu b c v:=by
   intro cs;induction cs with
   |nil=>intro vs h;rw[C5]at h;omega|cons c cs ih=>
    intro vs h;cases vs with
    |nil=>simp[cu]at h|cons v vs=>
     simp only[cu]at h;by_cases hc:0<gu b c v;exact⟨0,c,v,rfl,rfl,hc⟩;obtain⟨i,c',v',e1,e2,e3⟩:=ih vs (by omega);exact⟨i+1,c',v',by simpa using e1,by simpa using e2,e3⟩
  obtain⟨i,c,v,e1,e2,e3⟩:=key cs vs.toList hb;exact ih i c v e1 (by simpa using e2) e3
 |fm cs vs hl h ih=>
  intro hb;simp only[gu]at hb;have key:∀(cs:List AV) (vs:List Value),0<cu b cs vs->∃(i:Nat) (c:AV) (v:Value),cs[i]?=some c/\vs[i]?=some v/\0<gu b c v:=by
   intro cs;induction cs with
   |nil=>intro vs h;rw[C5]at h;omega|cons c cs ih=>
    intro vs h;cases vs with
    |nil=>simp[cu]at h|cons v vs=>
     simp only[cu]at h;by_cases hc:0<gu b c v;exact⟨0,c,v,rfl,rfl,hc⟩;obtain⟨i,c',v',e1,e2,e3⟩:=ih vs (by omega);exact⟨i+1,c',v',by simpa using e1,by simpa using e2,e3⟩
  obtain⟨i,c,v,e1,e2,e3⟩:=key cs vs.toList hb;exact ih i c v e1 (by simpa using e2) e3
 |iO sz rows a cap nE g8 cJ jy qI wU hc hr jz gQ ih=>
  intro hb;simp only[gu]at hb;split at hb;rename_i e;obtain⟨c,e',h1,_⟩:=gQ;rw[<-e];exact(Array.getElem?_eq_some_iff.1 h1).1;omega
 |raw sz rows a cap nE g8 cJ jy qI wU hc hr jz gQ ih=>
  intro hb;simp only[gu]at hb;split at hb;rename_i e;obtain⟨c,e',h1,_⟩:=gQ;rw[<-e];exact(Array.getElem?_eq_some_iff.1 h1).1;omega
 |_=>intro hb;simp[gu]at hb
theorem cF.held{as:List AV}{xs:List Value}{b:Nat}(h:cF w G as xs)(hb:0<cu b as xs):b<w.heap.size:=by
 have:bC w G (.agg as) (.agg xs.toArray):=.agg _ _ (by simpa using h.1) λi c v e1 e2=>h.2 i c v e1 (by simpa using e2);exact this.held (by simpa [gu] using hb)
theorem qY.held{ob:dy}{loc:mC}{b:Nat}(h:qY w G ob loc)(hb:0<je b loc ob):b<w.heap.size:=by
 have jF:loc.jF=some b->b<w.heap.size:=by
  intro e;unfold mC.jF at e;split at e;cases e;rename_i g8;cases ob with
  |rows cy sz rows=>
   obtain⟨_,_,h3⟩:=h;rcases h3.sK with⟨h0,_⟩|⟨b',off,c,e',g1,g2,g3,_⟩;exact absurd h0 g8;rw[g1]at e;simp at e;subst e;exact(Array.getElem?_eq_some_iff.1 g3).1
  |map es=>
   obtain⟨_,_,b',vC,clock,h3,h4,_⟩:=h;rw[h3]at e;simp at e;subst e;exact(Array.getElem?_eq_some_iff.1 h4).1
 cases ob with
 |rows cy sz rows=>
  simp only[je]at hb;split at hb;exact jF (by assumption);obtain⟨_,_,h3⟩:=h;have key:∀(rs:List (List AV)) (xs:List (List Value)),0<iP b rs xs->∃(i:Nat) (r:List AV) (x:List Value),rs[i]?=some r/\xs[i]?=some x/\0<cu b r x:=by
   intro rs;induction rs with
   |nil=>intro xs h;simp[iP]at h|cons r rs ih=>
    intro xs h;cases xs with
    |nil=>simp[iP]at h|cons x xs=>
     simp only[iP]at h;by_cases hc:0<cu b r x;exact⟨0,r,x,rfl,rfl,hc⟩;obtain⟨i,r',x',e1,e2,e3⟩:=ih xs (by omega);exact⟨i+1,r',x',by simpa using e1,by simpa using e2,e3⟩
  obtain⟨i,r,x,e1,e2,e3⟩:=key rows loc.vals (by omega);exact(h3.tZ i r x e1 e2).held e3
 |map es=>
  simp only[je]at hb;split at hb;exact jF (by assumption);omega
theorem jQ.held{st:aj}{b:Nat}(h:jQ w G st)(hb:0<cz b G.ls st):b<w.heap.size:=by
 have key:∀(ls:List mC) (st:List dy),0<cz b ls st->∃(i:Nat) (l:mC) (o:dy),ls[i]?=some l/\st[i]?=some o/\0<je b l o:=by
  intro ls;induction ls with
  |nil=>intro st h;simp[cz]at h|cons l ls ih=>
   intro st h;cases st with
   |nil=>simp[cz]at h|cons o st=>
    simp only[cz]at h;by_cases hc:0<je b l o;exact⟨0,l,o,rfl,rfl,hc⟩;obtain⟨i,l',o',e1,e2,e3⟩:=ih st (by omega);exact⟨i+1,l',o',by simpa using e1,by simpa using e2,e3⟩
 obtain⟨i,l,o,e1,e2,e3⟩:=key G.ls st hb;exact(h.aT i o l e2 e1).held e3
theorem lH.held{bx:bF}{b:Nat}(h:lH w G β bx)(hb:0<gT b β bx):b<w.heap.size:=by
 have key:∀(β:List m9) (bx:bF),0<gT b β bx->∃(i:Nat) (g:m9) (r:List AV),β[i]?=some g/\bx[i]?=some r/\0<(if g.jF=some b then 1 else 0)+cu b r g.vals:=by
  intro β;induction β with
  |nil=>intro st h;simp[gT]at h|cons l ls ih=>
   intro st h;cases st with
   |nil=>simp[gT]at h|cons o st=>
    simp only[gT]at h;by_cases hc:0<(if l.jF=some b then 1 else 0)+cu b o l.vals;exact⟨0,l,o,rfl,rfl,hc⟩;obtain⟨i,l',o',e1,e2,e3⟩:=ih st (by omega);exact⟨i+1,l',o',by simpa using e1,by simpa using e2,e3⟩
 obtain⟨i,g,r,e1,e2,e3⟩:=key β bx hb;have hB:=h.box i r g e2 e1;by_cases hc:0<cu b r g.vals;exact hB.tU.held hc;split at e3;rename_i gQ;rcases hB.sK with⟨h0,_⟩|⟨b',c,e',g1,g2,_⟩;rw[h0]at gQ;cases gQ;rw[g1]at gQ;cases gQ;exact(Array.getElem?_eq_some_iff.1 g2).1;omega
end Ax
namespace Ax
open Go
variable {P:Program}{w w':World}{G G':bp}{β gZ:List m9}{ρ:Operand->Value}{o:Oper}
structure kA (w:World)(G:bp)(β:List m9)(st:aj)(bx:bF)(cO:Nat->Nat)(w':World)(G':bp)(gZ:List m9)(bV:aj)(gC:bF)(e:fq)(v:Value):Prop where
 jK:sH w G w' G'
 inv:jQ w' G' bV
 box:lH w' G' gZ gC
 tU:kP w' G' gZ e v
 gu:∀b,cL b e v+gT b gZ gC+cz b G'.ls bV<=cO b+gT b β bx+cz b G.ls st+(if w.heap.size<=b then 1 else 0)
 vK:∀b,cO b+gT b β bx+cz b G.ls st=0->b<w.heap.size->eR w G w' G' b
 size:w.heap.size<=w'.heap.size
 os:w'.os=w.os
 out:w'.output=w.output
theorem kA.nR{st:aj}{bx:bF}{cO:Nat->Nat}{e:fq}{v:Value}(hI:jQ w G st)(hB:lH w G β bx)(hr:kP w G β e v)(hc:∀b,cL b e v<=cO b):kA w G β st bx cO w G β st bx e v where
 jK:=sH.refl w G
 inv:=hI
 box:=hB
 tU:=hr
 gu:=λb=>by have:=hc b;omega
 vK:=λ_ _ _=>⟨rfl,rfl⟩
 size:=Nat.le_refl _
 os:=rfl
 out:=rfl
def bp.new(G:bp)(n:Nat)(x:Option Nat)(l:List mC):bp:=⟨G.ls++l,λb=>if b=n then x else G.mM b⟩
theorem NS{ob:Obj}(hw:w'.heap=w.heap.push ob){b o:Nat}(hb:b<w.heap.size):w'.cell? ⟨b,o,none⟩=w.cell? ⟨b,o,none⟩:=by
 refine qn ?_;rw[hw,Array.getElem?_push,if_neg (by omega)]
theorem sy{ob:Obj}(hw:w'.heap=w.heap.push ob)(x:Option Nat)(l:List mC):sH w G w' (G.new w.heap.size x l) where
 PM:=λb o hi=>by
  refine⟨NS hw hi.1,by rw[hw];simp;have:=hi.1;omega,λp hp=>?_⟩;have:¬b=w.heap.size:=by have:=hi.1;omega
  simp only[bp.new,if_neg this]at hp;exact hi.2 p hp
 Mj:=λid loc hl=>by
  refine⟨loc,?_,Nat.le_refl _,λ_=>rfl⟩;simp only[bp.new];rw[List.getElem?_append_left (List.getElem?_eq_some_iff.1 hl).1];exact hl
theorem iy{ob:Obj}(hw:w'.heap=w.heap.push ob)(x:Option Nat)(l:List mC){b:Nat}(hb:b<w.heap.size):eR w G w' (G.new w.heap.size x l) b:=by
 refine⟨by simp only[bp.new];rw[if_neg (by omega)],?_⟩;rw[hw,Array.getElem?_push,if_neg (by omega)]
theorem bC.push{ob:Obj}(hw:w'.heap=w.heap.push ob)(x:Option Nat)(l:List mC){a:AV}{v:Value}(h:bC w G a v):bC w' (G.new w.heap.size x l) a v:=
 h.jK (sy hw x l) λ_ hb=>iy hw x l (h.held hb)
theorem cF.push{ob:Obj}(hw:w'.heap=w.heap.push ob)(x:Option Nat)(l:List mC){as:List AV}{xs:List Value}(h:cF w G as xs):cF w' (G.new w.heap.size x l) as xs:=
 ⟨h.1,λi c v e1 e2=>(h.2 i c v e1 e2).push hw x l⟩
theorem Mq{ob:Obj}(hw:w'.heap=w.heap.push ob)(x:Option Nat){st:aj}(hI:jQ w G st):jQ w' (G.new w.heap.size x []) st where
 len:=by simp[bp.new,hI.len]
 aT:=λid Im loc h1 h2=>by
  simp only[bp.new,List.append_nil]at h2;have h:=hI.aT id Im loc h1 h2;exact h.jK (sy hw x []) λb hb=>iy hw x [] (h.held hb)
 nO:=λb p hp=>by
  simp only[bp.new]at hp;rw[hw];simp only[Array.size_push];split at hp;omega;have:=hI.nO b p hp;omega
theorem IG{ob:Obj}(hw:w'.heap=w.heap.push ob)(x:Option Nat){st:aj}(hI:jQ w G st){loc:mC}{ao:dy}(h:qY w' (G.new w.heap.size x [loc]) ao loc):jQ w' (G.new w.heap.size x [loc]) (st++[ao]) where
 len:=by simp[bp.new,hI.len]
 aT:=λid Im l h1 h2=>by
  simp only[bp.new]at h2;by_cases Kl:id<st.length;rw[List.getElem?_append_left Kl]at h1;rw[List.getElem?_append_left (by rw[hI.len];exact Kl)]at h2;have h:=hI.aT id Im l h1 h2;exact h.jK (sy hw x [loc]) λb hb=>iy hw x [loc] (h.held hb);rw[List.getElem?_append_right (by omega)]at h1;rw[List.getElem?_append_right (by rw[hI.len];omega)]at h2;rw[hI.len]at h2;have h0:id-st.length=0:=by
   have:=(List.getElem?_eq_some_iff.1 h1).1;simp at this;omega
  rw[h0]at h1 h2;simp at h1 h2;subst h1;subst h2;exact h
 nO:=λb p hp=>by
  simp only[bp.new]at hp;rw[hw];simp only[Array.size_push];split at hp;omega;have:=hI.nO b p hp;omega
theorem Db{ob:Obj}(hw:w'.heap=w.heap.push ob)(x:Option Nat)(l:List mC){bx:bF}(hB:lH w G β bx):lH w' (G.new w.heap.size x l) β bx where
 len:=hB.len
 box:=λj row g h1 h2=>by
  have h:=hB.box j row g h1 h2;refine h.jK (sy hw x l) λb hb=>iy hw x l (hB.held (b:=b) ?_);have:=nQ b β bx j g row h2 h1;omega
theorem GW{ob:Obj}(hw:w'.heap=w.heap.push ob)(Mr:w'.os=w.os)(zp:w'.output=w.output)(x:Option Nat){st:aj}{bx:bF}(hI:jQ w G st)(hB:lH w G β bx){cO:Nat->Nat}{a:AV}{v:Value}
  (hr:bC w' (G.new w.heap.size x []) a v)(hc:∀b,gu b a v<=if b=w.heap.size then 1 else 0):kA w G β st bx cO w' (G.new w.heap.size x []) β st bx (.val a) v where
 jK:=sy hw x []
 inv:=Mq hw x hI
 box:=Db hw x [] hB
 tU:=hr
 gu:=λb=>by
  have:=hc b;simp only[cL,bp.new,List.append_nil];split at this;rename_i e;subst e;simp;omega;omega
 vK:=λb _ hb=>iy hw x [] hb
 size:=by rw[hw];simp
 os:=Mr
 out:=zp
theorem sA{ob:Obj}(hw:w'.heap=w.heap.push ob)(Mr:w'.os=w.os)(zp:w'.output=w.output){st:aj}{bx:bF}(hI:jQ w G st)(hB:lH w G β bx){cO:Nat->Nat}{a:AV}{v:Value}{loc:mC}{ao:dy}
  (h:qY w' (G.new w.heap.size (some 0) [loc]) ao loc)(hr:bC w' (G.new w.heap.size (some 0) [loc]) a v)(hn:a.cC=true)(hc:∀b,je b loc ao<=(if b=w.heap.size then 1 else 0)+cO b) :
  kA w G β st bx cO w' (G.new w.heap.size (some 0) [loc]) β (st++[ao]) bx (.val a) v where
 jK:=sy hw _ _
 inv:=IG hw _ hI h
 box:=Db hw _ _ hB
 tU:=hr
 gu:=λb=>by
  have h1:=hc b;simp only[cL,bp.new,fz b a v hn];rw[sx b _ _ _ _ hI.len];simp only[cz];split at h1;rename_i e;subst e;simp;omega;omega
 vK:=λb _ hb=>iy hw _ _ hb
 size:=by rw[hw];simp
 os:=Mr
 out:=zp
theorem vL{sz:Nat}{α:Type}:∀(rows:List (List α))(i j:Nat) r c,(∀r∈rows,r.length=sz)->rows[i]?=some r->r[j]?=some c->rows.flatten[i*sz+j]?=some c
 |[],_,_,_,_,_,h,_=>by simp at h|r0::rows,0,j,r,c,hf,h1,h2=>by
  simp at h1;subst h1;simp only[List.flatten_cons,Nat.zero_mul,Nat.zero_add];rw[List.getElem?_append_left (List.getElem?_eq_some_iff.1 h2).1];exact h2
 |r0::rows,i+1,j,r,c,hf,h1,h2=>by
  have ih:=vL rows i j r c (λr hr=>hf r (by simp[hr])) (by simpa using h1) h2;have h0:r0.length=sz:=hf r0 (by simp);simp only[List.flatten_cons];rw[List.getElem?_append_right (by rw[h0,Nat.succ_mul];omega),h0];rw[show (i+1)*sz+j-sz=i*sz+j by rw[Nat.succ_mul];omega];exact ih
theorem dg{sz:Nat}{rows:List (List AV)}:bN sz rows=true↔∀r∈rows,r.length=sz:=by
 simp[bN]
theorem gx{sz:Nat}{α:Type}:∀(rows:List (List α)),(∀r∈rows,r.length=sz)->rows.flatten.length=rows.length*sz
 |[],_=>by simp|r::rows,h=>by
  simp only[List.flatten_cons,List.length_append,List.length_cons];rw[gx rows λr hr=>h r (by simp[hr]),h r (by simp),Nat.succ_mul];omega
def rW{α:Type}(sz:Nat):Nat->List α->List (List α)
 |0,_=>[]
 |n+1,xs=>xs.take sz::rW sz n (xs.drop sz)
theorem Bw{α:Type}(sz:Nat):∀(n:Nat)(xs:List α),(rW sz n xs).length=n
 |0,_=>rfl|n+1,xs=>by simp[rW,Bw sz n]
theorem Dc{α:Type}(sz:Nat):∀(n:Nat)(xs:List α)(i:Nat) ys,(rW sz n xs)[i]?=some ys->ys=(xs.drop (i*sz)).take sz
 |0,_,_,_,h=>by simp[rW]at h|n+1,xs,0,ys,h=>by simp[rW]at h;simp[h]|n+1,xs,i+1,ys,h=>by
  simp only[rW,List.getElem?_cons_succ]at h;rw[Dc sz n _ i ys h,List.drop_drop];congr 2;rw[Nat.succ_mul];omega
theorem FH{sz:Nat}:∀(rows:List (List AV))(i:Nat) r,(∀r∈rows,r.length=sz)->rows[i]?=some r->(rows.flatten.drop (i*sz)).take sz=r
 |[],_,_,_,h=>by simp at h|r0::rows,0,r,hf,h=>by
  simp at h;subst h;have h0:r0.length=sz:=hf r0 (by simp);simp[<-h0]
 |r0::rows,i+1,r,hf,h=>by
  have ih:=FH rows i r (λr hr=>hf r (by simp[hr])) (by simpa using h);have h0:r0.length=sz:=hf r0 (by simp);simp only[List.flatten_cons];rw[show (i+1)*sz=r0.length+i*sz by rw[h0,Nat.succ_mul];omega,<-List.drop_drop,List.drop_left];exact ih
theorem ud{sz:Nat}(b:Nat):∀(rows:List (List AV))(xs:List Value),(∀r∈rows,r.length=sz)->rows.flatten.length=xs.length->iP b rows (rW sz rows.length xs)=cu b rows.flatten xs
 |[],xs,_,_=>by simp[iP,C5]|r::rows,xs,hf,hl=>by
  have h0:r.length=sz:=hf r (by simp);simp only[List.length_cons,rW,iP,List.flatten_cons];rw[List.flatten_cons,List.length_append]at hl;rw[ud b rows (xs.drop sz) (λr hr=>hf r (by simp[hr])) (by rw[List.length_drop];omega)];have:=gH b r rows.flatten (xs.take sz) (xs.drop sz) (by rw[List.length_take];omega);rw[List.take_append_drop]at this;omega
theorem rj{sz:Nat}{rows:List (List AV)}{loc:mC}{b off:Nat}{c:Array Value}{e:TypeId}{xs:List Value}(hf:bN sz rows=true)(kB:∀r∈rows,AV.bq r=true)(fR:cF w G rows.flatten xs)
  (h1:loc.len=rows.length)(h2:loc.sz=sz)(h3:loc.vals=rW sz rows.length xs)(h4:loc.a=some ⟨b,off,none⟩)(h5:0<loc.cap)(h6:w.heap[b]?=some (.cells c e (0,0)))(h7:off+loc.cap*sz<=c.size)
  (h8:rows.length<=loc.cap) (h9:G.mM b=some 0) (AN:∀(k:Nat) x,xs[k]?=some x->w.cell? ⟨b,off+k,none⟩=some x):vH w G sz rows loc where
 FE:=hf
 E1:=kB
 len:=h1
 size:=h2
 tj:=by rw[h3,Bw]
 tZ:=λi r ys e1 e2=>by
  rw[h3]at e2;rw[Dc _ _ _ _ _ e2,<-FH rows i r (dg.1 hf) e1];exact(fR.drop _).take _
 sK:=by
  refine .inr ⟨b,off,c,e,h4,h5,h6,h7,h8,h9,λi ys j x e1 e2=>?_⟩;rw[h3]at e1;rw[Dc _ _ _ _ _ e1,List.getElem?_take]at e2;split at e2;rw[List.getElem?_drop]at e2;exact AN _ x e2;cases e2
end Ax
namespace Ax
open Go
variable {P:Program}{w w':World}{G G':bp}{β gZ:List m9}{ρ:Operand->Value}{o:Oper}
theorem Dd{c:Array Value}{e:TypeId}(hw:w'.heap=w.heap.push (.cells c e)){k:Nat}{x:Value}(h:c[k]?=some x):w'.cell? ⟨w.heap.size,k,none⟩=some x:=by
 simp[World.cell?,hw,h]
theorem tq{ob:Obj}(hw:w'.heap=w.heap.push ob):w'.heap[w.heap.size]?=some ob:=by simp[hw]
theorem PX{sz cap:Nat}{rows:List (List AV)}{c:Array Value}{e:TypeId}{xs:List Value}{l:List mC}(hw:w'.heap=w.heap.push (.cells c e))(hf:bN sz rows=true)(kB:∀r∈rows,AV.bq r=true)
  (fR:cF w G rows.flatten xs)(h5:0<cap)(h7:cap*sz<=c.size)(h8:rows.length<=cap)(hx:∀(k:Nat) x,xs[k]?=some x->c[k]?=some x)(cy:Nat) :
  vH w' (G.new w.heap.size (some 0) l) sz rows ⟨some ⟨w.heap.size,0,none⟩,cap,rows.length,sz,cy,false,rW sz rows.length xs⟩:=
 rj hf kB (fR.push hw _ _) rfl rfl rfl rfl h5 (tq hw) (by simpa using h7) h8 (by simp[bp.new]) λk x hk=>by
  rw[Nat.zero_add];exact Dd hw (hx k x hk)
theorem vM{sz cap:Nat}{rows:List (List AV)}{c:Array Value}{e:TypeId}{xs:List Value}{st:aj}{bx:bF}(hI:jQ w G st)(hB:lH w G β bx){cO:Nat->Nat}(hw:w'.heap=w.heap.push (.cells c e))(Mr:w'.os=w.os)(zp:w'.output=w.output)
  (hf:bN sz rows=true)(kB:∀r∈rows,AV.bq r=true)(fR:cF w G rows.flatten xs)(h5:0<cap)(h7:cap*sz<=c.size)(h8:rows.length<=cap)
  (hx:∀(k:Nat) x,xs[k]?=some x->c[k]?=some x) (hc:∀b,cu b rows.flatten xs<=cO b) :
  ∃G',kA w G β st bx cO w' G' β (st++[.rows 0 sz rows]) bx (.val (.mu st.length 0)) (.slice (some ⟨w.heap.size,0,none⟩) rows.length cap)/\
   kA w G β st bx cO w' G' β (st++[.rows 0 sz rows]) bx (.val (.ptr st.length 0 0 0)) (.pointer (some ⟨w.heap.size,0,none⟩)):=by
 have hR:=PX (l:=[⟨some ⟨w.heap.size,0,none⟩,cap,rows.length,sz,0,false,rW sz rows.length xs⟩]) hw hf kB fR h5 h7 h8 hx 0;have KG:∀b,je b ⟨some ⟨w.heap.size,0,none⟩,cap,rows.length,sz,0,false,rW sz rows.length xs⟩ (.rows 0 sz rows)<=(if b=w.heap.size then 1 else 0)+cO b:=by
  intro b;simp only[je,mC.jF];rw[ud b rows xs (dg.1 hf) fR.1,if_neg (show ¬cap=0 by omega)];have:=hc b;simp only[Option.map_some,Option.some.injEq];by_cases hb:b=w.heap.size;subst hb;simp;omega;rw[if_neg (λh=>hb h.symm),if_neg hb];omega
 have hl:(G.new w.heap.size (some 0) [⟨some ⟨w.heap.size,0,none⟩,cap,rows.length,sz,0,false,rW sz rows.length xs⟩]).ls[st.length]?=some ⟨some ⟨w.heap.size,0,none⟩,cap,rows.length,sz,0,false,rW sz rows.length xs⟩:=by
  simp only[bp.new];rw[List.getElem?_append_right (by rw[hI.len];exact Nat.le_refl _),hI.len];simp
 refine⟨_,sA hw Mr zp hI hB ⟨rfl,rfl,hR⟩ (.mu _ _ _ _ ⟨_,_,_,rfl⟩ hl (Nat.le_refl _) λ_=>rfl) rfl KG,
  sA hw Mr zp hI hB ⟨rfl,rfl,hR⟩ (.ptr _ _ _ _ _ _ ⟨_,rfl⟩ hl (Nat.le_refl _) λ_=>⟨_,rfl,by simp⟩) rfl KG⟩
theorem GX{sz cap:Nat}{rows:List (List AV)}{b off:Nat}{c:Array Value}{e:TypeId}{xs:List Value}(hf:bN sz rows=true)(kB:∀r∈rows,AV.bq r=true)(jy:∀r∈rows,AV.eY r=true)(qI:∀r∈rows,AV.ai r=true)
  (fR:cF w G rows.flatten xs)(h6:w.heap[b]?=some (.cells c e (0,0)))(h7:off+cap*sz<=c.size)(h8:rows.length<=cap)(h9:G.mM b=some (off+rows.length*sz))
  (hx:∀(k:Nat) x,xs[k]?=some x->c[off+k]?=some x):bC w G (.iO sz rows) (.slice (some ⟨b,off,none⟩) rows.length cap):=by
 have qe:∀(k:Nat) x,xs[k]?=some x->w.cell? ⟨b,off+k,none⟩=some x:=λk x h=>by simp[World.cell?,h6,hx k x h]
 have key:∀(i:Nat) r (j:Nat) a,rows[i]?=some r->r[j]?=some a->∃v,w.cell? ⟨b,off+(i*sz+j),none⟩=some v/\bC w G a v:=by
  intro i r j a h1 h2;have h3:=vL rows i j r a (dg.1 hf) h1 h2;have aW:i*sz+j<xs.length:=by rw[<-fR.1];exact(List.getElem?_eq_some_iff.1 h3).1
  exact⟨_,qe _ _ (List.getElem?_eq_getElem aW),fR.2 _ _ _ h3 (List.getElem?_eq_getElem aW)⟩
 refine .iO sz rows ⟨b,off,none⟩ cap rfl h8 hf jy qI kB (λi r j a h1 h2=>?_) (λi r j a v h1 h2 h3=>?_) h9 ⟨c,e,h6,h7⟩;obtain⟨v,h,_⟩:=key i r j a h1 h2;exact⟨v,h⟩;obtain⟨v',h,h'⟩:=key i r j a h1 h2;rw[h]at h3;cases h3;exact h'
theorem GY{sz cap:Nat}{rows:List (List AV)}{c:Array Value}{e:TypeId}{xs:List Value}{st:aj}{bx:bF}(hI:jQ w G st)(hB:lH w G β bx){cO:Nat->Nat}(hw:w'.heap=w.heap.push (.cells c e))(Mr:w'.os=w.os)(zp:w'.output=w.output)
  (hf:bN sz rows=true)(kB:∀r∈rows,AV.bq r=true)(jy:∀r∈rows,AV.eY r=true)(qI:∀r∈rows,AV.ai r=true)
  (fR:cF w G rows.flatten xs) (h7:cap*sz<=c.size) (h8:rows.length<=cap)
  (hx:∀(k:Nat) x,xs[k]?=some x->c[k]?=some x) :
  ∃G',kA w G β st bx cO w' G' β st bx (.val (.iO sz rows)) (.slice (some ⟨w.heap.size,0,none⟩) rows.length cap):=by
 refine⟨_,GW hw Mr zp (some (rows.length*sz)) hI hB (GX hf kB jy qI (fR.push hw _ _) (tq hw) (by simpa using h7) h8 (by simp[bp.new]) λk x hk=>by rw[Nat.zero_add];exact hx k x hk) λb=>?_⟩;simp only[gu];split;rename_i h;rw[if_pos h.symm];omega;omega
theorem Ms{row:List AV}{c:Array Value}{e:TypeId}{st:aj}{bx:bF}(hI:jQ w G st)(hB:lH w G β bx){cO:Nat->Nat}(hw:w'.heap=w.heap.push (.cells c e))(Mr:w'.os=w.os)(zp:w'.output=w.output)
  {j:Nat}(hj:j<bx.length)(fR:cF w G row c.toList)(kB:AV.bq row=true)(hc:∀b,cu b row c.toList<=cO b) :
  kA w G β st bx cO w' (G.new w.heap.size (some 0) []) (β.set j ⟨some w.heap.size,c.toList⟩) st (bx.set j row) (.fp j 0) (.pointer (some ⟨w.heap.size,0,none⟩)) where
 jK:=sy hw _ _
 inv:=Mq hw _ hI
 box:=by
  have hB':=Db hw (some 0) [] hB;refine⟨by simp[hB.len],λi r g h1 h2=>?_⟩;rw[List.getElem?_set]at h1 h2;split at h1;rename_i Cb;subst Cb;rw[if_pos rfl,if_pos (by rw[hB.len];exact hj)]at h2;cases h1;cases h2;refine⟨fR.push hw _ _,kB,.inr ⟨w.heap.size,c,e,rfl,tq hw,by rw[fR.1];simp,by simp[bp.new],λk x hk=>Dd hw (by simpa using hk)⟩⟩;rw[if_neg (by assumption)]at h2;exact hB'.box i r g h1 h2
 tU:=⟨_,_,by rw[List.getElem?_set,if_pos rfl,if_pos (by rw[hB.len];exact hj)],rfl,rfl⟩
 gu:=λb=>by
  have hjb:j<β.length:=by rw[hB.len];exact hj
  have hg:β[j]?=some β[j]:=List.getElem?_eq_getElem hjb;have hr:bx[j]?=some bx[j]:=List.getElem?_eq_getElem hj;have h1:=zn b β bx j _ _ ⟨some w.heap.size,c.toList⟩ row hg hr;have h2:=hc b;simp only[cL,bp.new,List.append_nil];simp only[Option.some.injEq]at h1;by_cases hb:w.heap.size=b;subst hb;simp only[if_true]at h1;rw[if_pos (Nat.le_refl _)];omega;rw[if_neg hb]at h1;omega
 vK:=λb _ hb=>iy hw _ _ hb
 size:=by rw[hw];simp
 os:=Mr
 out:=zp
theorem Mt{t:TypeId}(ho:o.op=.alloc t){i:TypeInfo}{z:Value}(hi:P.info? t=some i)(hz:i.zero=some z) :
  (execOp ρ o).run P w=.ok (.value (.pointer (some ⟨w.heap.size,0,none⟩))) (w.alloc (.cells z.cells t)):=by
 simp[execOp,ho,Instr.alloc,zeroValue,typeInfo,hi,hz,newVar,newRow]
theorem WZ{t:TypeId}{x:Operand}(ho:o.op=.box t x) :
  (execOp ρ o).run P w=.ok (.value (.pointer (some ⟨w.heap.size,0,none⟩))) (w.alloc (.cells (ρ x).cells t)):=by
 simp[execOp,ho,Instr.box,newVar,newRow]
theorem FI{zero:List AV}(h:∀c∈zero,c.cC=true/\c.ax=true)(b:Nat)(xs:List Value):cu b zero xs=0:=
 eE b _ _ ((de zero).2 λc hc=>(h c hc).1)
theorem NT{st:aj}{bx:bF}(hI:jQ w G st)(hB:lH w G β bx){cO:Nat->Nat}{t:TypeId}{z:Value}{zero:List AV}(fR:cF w G zero z.cells.toList)(hn:∀c∈zero,c.cC=true/\c.ax=true)(hc:AV.bq zero=true) :
  ∃G',kA w G β st bx cO (w.alloc (.cells z.cells t)) G' β (st++[.rows 0 zero.length [zero]]) bx (.val (.ptr st.length 0 0 0)) (.pointer (some ⟨w.heap.size,0,none⟩)):=by
 obtain⟨G',_,h⟩:=vM (sz:=zero.length) (cap:=1) (rows:=[zero]) (c:=z.cells) (e:=t) (xs:=z.cells.toList) (w':=w.alloc (.cells z.cells t)) (cO:=cO) hI hB rfl rfl rfl (by simp[bN]) (by simpa using hc) (by simpa using fR) (by omega)
  (by rw[fR.1];simp) (by simp) (by simp) (λb=>by simp only[List.flatten_cons,List.flatten_nil,List.append_nil];rw[FI hn];omega)
 exact⟨G',h⟩
theorem PY{st:aj}{bx:bF}(hI:jQ w G st)(hB:lH w G β bx){cO:Nat->Nat}{t:TypeId}{a:AV}{v:Value}{n:Nat}(hv:bC w G a v)(hn:a.cells.length=n)(hc:AV.bq a.cells=true)(hO:∀b,gu b a v<=cO b) :
  ∃G',kA w G β st bx cO (w.alloc (.cells v.cells t)) G' β (st++[.rows 0 n [a.cells]]) bx (.val (.ptr st.length 0 0 0)) (.pointer (some ⟨w.heap.size,0,none⟩)):=by
 obtain⟨hr,Mn⟩:=hv.cells;obtain⟨G',_,h⟩:=vM (sz:=n) (cap:=1) (rows:=[a.cells]) (c:=v.cells) (e:=t) (xs:=v.cells.toList) (w':=w.alloc (.cells v.cells t)) (cO:=cO) hI hB rfl rfl rfl (by simp[bN,hn]) (by simpa using hc) (by simpa using hr) (by omega)
  (by rw[<-hn,hr.1];simp) (by simp) (by simp) (λb=>by simp only[List.flatten_cons,List.flatten_nil,List.append_nil];rw[Mn];exact hO b)
 exact⟨G',h⟩
theorem De{α:Type}{sz:Nat}:∀(rows:List (List α))(i:Nat)(r:List α),(∀r∈rows,r.length=sz)->r.length=sz->i<rows.length->(rows.set i r).flatten=ag rows.flatten (i*sz) r
 |[],_,_,_,_,h=>by simp at h|r0::rows,0,r,hf,hr,_=>by
  have h0:r0.length=sz:=hf r0 (by simp);have e:=jU (r0++rows.flatten) 0 r (by simp;omega);simp only[List.set_cons_zero,List.flatten_cons,Nat.zero_mul];rw[e];simp[hr,<-h0]
 |r0::rows,i+1,r,hf,hr,h=>by
  have h0:r0.length=sz:=hf r0 (by simp);have hf':∀r∈rows,r.length=sz:=λr hr=>hf r (by simp[hr]);have ih:=De rows i r hf' hr (by simpa using h);have aW:i<rows.length:=by simpa using h
  have hle:i*sz+r.length<=rows.flatten.length:=by
   rw[gx rows hf',hr]
   calc i*sz+sz=(i+1)*sz:=by rw[Nat.succ_mul]
    _<=rows.length*sz:=Nat.mul_le_mul_right _ aW
  have h1:(i+1)*sz=r0.length+i*sz:=by rw[h0,Nat.succ_mul];omega
  simp only[List.set_cons_succ,List.flatten_cons];rw[ih,h1,jU (r0++rows.flatten) _ _ (by rw[List.length_append];omega),jU _ _ _ hle,Nat.add_assoc,List.take_append,List.drop_append];simp[List.append_assoc,show r0.length+i*sz-r0.length=i*sz by omega,show r0.length+(i*sz+r.length)-r0.length=i*sz+r.length by omega,List.take_of_length_le,List.drop_of_length_le]
theorem yc{sz:Nat}:∀(qs:List Nat)(vs:List AV)(rows eS:List (List AV)),(∀r∈rows,r.length=sz)->gv sz rows qs vs=some eS->
  iV rows.flatten (qs.map λi=>(i*sz,sz)) vs=some eS.flatten/\(∀r∈eS,r.length=sz)/\eS.length=rows.length
 |[],[],rows,eS,hf,h=>by simp[gv]at h;subst h;exact⟨rfl,hf,rfl⟩|[],_::_,_,_,_,h=>by simp[gv]at h|_::_,[],_,_,_,h=>by simp[gv]at h|i::qs,v::vs,rows,eS,hf,h=>by
  simp only[gv]at h;split at h;rename_i hc;simp only[Bool.and_eq_true,decide_eq_true_eq]at hc;have hf':∀r∈rows.set i v.cells,r.length=sz:=by
   intro r hr;rcases List.mem_or_eq_of_mem_set hr with h|h;exact hf r h;rw[h];exact hc.1
  obtain⟨e1,e2,e3⟩:=yc qs vs _ eS hf' h;refine⟨?_,e2,by simpa using e3⟩;have hle:i*sz+sz<=rows.flatten.length:=by
   rw[gx rows hf]
   calc i*sz+sz=(i+1)*sz:=by rw[Nat.succ_mul]
    _<=rows.length*sz:=Nat.mul_le_mul_right _ hc.2
  simp only[List.map_cons,iV];rw[if_pos (by simp only[hc.1,decide_true,Bool.true_and,decide_eq_true_eq];exact hle),<-De rows i v.cells hf hc.1 hc.2];exact e1;cases h
theorem yG(sz n:Nat)(zero:List AV)(hz:zero.length=sz)(dF:0<sz)(k:Nat)(hk:k<n*sz):(List.replicate n zero).flatten[k]?=zero[k % sz]?:=by
 have hi:k / sz<n:=Nat.div_lt_of_lt_mul (by rw[Nat.mul_comm];exact hk);have hj:k % sz<zero.length:=by rw[hz];exact Nat.mod_lt _ dF
 have h:=vL (sz:=sz) (List.replicate n zero) (k / sz) (k % sz) zero zero[k % sz] (λr hr=>by rw[List.eq_of_mem_replicate hr,hz]) (by rw[List.getElem?_replicate,if_pos hi]) (List.getElem?_eq_getElem hj);rw[Nat.mul_comm,Nat.div_add_mod]at h;rw[h,List.getElem?_eq_getElem hj]
theorem FJ{sz n:Nat}{zero:List AV}{z:Array Value}(fR:cF w G zero z.toList)(hz:zero.length=sz)(dF:0<sz) :
  cF w G (List.replicate n zero).flatten (((Array.range (n*sz)).map (z[· % z.size]!)).toList):=by
 have hs:z.size=sz:=by rw[<-hz,fR.1];simp
 refine⟨by rw[gx (sz:=sz) _ (λr hr=>by rw[List.eq_of_mem_replicate hr,hz])];simp,λk c v h1 h2=>?_⟩;have hk:k<n*sz:=by
  have:=(List.getElem?_eq_some_iff.1 h2).1;simpa using this
 rw[yG sz n zero hz dF k hk]at h1;have hm:k % sz<z.size:=by rw[hs];exact Nat.mod_lt _ dF
 simp only[Array.toList_map,Array.toList_range,List.getElem?_map,List.getElem?_range hk,Option.map_some,Option.some.injEq,hs]at h2;refine fR.2 _ c v h1 ?_;rw[<-h2,getElem!_pos z (k % sz) hm];simp[hm]
theorem W0{t e:TypeId}{n sz:Nat}{parts:Array (Nat×Operand)}(ho:o.op=.buildSlice t n parts)(hu:P.underlying t=some (.slice e))(dF:dz P e sz=true)(KH:n*sz<=16777216){zero:List AV}(hz:sI P e zero=true)
  (Ug:0<sz)(Mu:zero.length=sz){qs:List Nat}(hq:parts.toList.map (·.1)=qs){vs:List AV}{rows:List (List AV)}(tr:gv sz (List.replicate n zero) qs vs=some rows)(hn:0<n)(hv:cF w G vs (parts.toList.map λp=>ρ p.2)) :
  ∃cells,(execOp ρ o).run P w=.ok (.value (.slice (some ⟨w.heap.size,0,none⟩) rows.length n)) (w.alloc (.cells cells e))/\cF w G rows.flatten cells.toList/\(∀b,cu b rows.flatten cells.toList<=cu b vs (parts.toList.map λp=>ρ p.2))/\
   bN sz rows=true/\rows.length=n/\n*sz=cells.size:=by
 obtain⟨i,z,hi,Ub,o8,NP,_⟩:=oD hz w G;obtain⟨i',rV,FG,_⟩:=nh dF;rw[hi]at rV;cases rV;obtain⟨e1,e2,e3⟩:=yc qs vs _ rows (λr hr=>by rw[List.eq_of_mem_replicate hr,Mu]) tr;have GR:(parts.map λ(x:Nat×Operand)=>(x.1,ρ x.2)).toList.map (·.2)=parts.toList.map λp=>ρ p.2:=by simp[Function.comp_def]
 obtain⟨cells,f1,f2,f3⟩:=GQ (place:=λi=>some (i*sz,sz)) (parts.map λ(x:Nat×Operand)=>(x.1,ρ x.2)).toList _ vs _ _ _ e1 (FJ o8 Mu Ug) (by rw[GR];exact hv) (by
  intro k p q h1 h2;subst hq;simp only[Array.toList_map,List.getElem?_map,Option.map_eq_some_iff,List.map_map]at h1 h2;obtain⟨p',h1,rfl⟩:=h1;obtain⟨p'',h2,rfl⟩:=h2;rw[h1]at h2;cases h2
  rfl)
 have ni:rows.length=n:=by rw[e3];simp
 have hnz:¬n*i.size=0:=by rw[FG];have:=Nat.mul_pos hn Ug;omega
 have:=run_buildSlice w t e n (parts.map λ(x:Nat×Operand)=>(x.1,ρ x.2)) cells i z hu hi Ub (by rw[FG];omega) hnz (by rw[FG];exact f1);refine⟨cells,?_,f2,λb=>?_,dg.2 e2,ni,?_⟩;simp only[execOp,ho,Sem.run_bind,this,Result.andThen_ok,Sem.run_pure,ni];have h1:=f3 b;rw[GR]at h1;have h2:cu b (List.replicate n zero).flatten ((Array.range (n*sz)).map (z.cells[· % z.cells.size]!)).toList=0:=by
  refine eE b _ _ ((de _).2 λc hc=>?_);obtain⟨r,hr,hc⟩:=List.mem_flatten.1 hc;rw[List.eq_of_mem_replicate hr]at hc;exact(NP c hc).1
 omega;have:=f2.1;rw[gx rows e2,ni]at this;simpa using this
theorem PZ{t e:TypeId}{x y:Operand}(ho:o.op=.makeSlice t x y)(hu:P.underlying t=some (.slice e)){sz bytes:Nat}(dF:dz P e sz=true)(hby:wY P e bytes=true){zero:List AV}(hz:sI P e zero=true)(Ug:0<sz)(Mu:zero.length=sz)
  {n c:Int}(hx:ρ x=.int .i64 n)(hy:ρ y=.int .i64 c)(h0:0<=n)(h1:n<=c)(h2:c*bytes<=cR)(h3:c<=9223372036854775807) :
  ∃cells,(execOp ρ o).run P w=.ok (.value (.slice (some ⟨w.heap.size,0,none⟩) n.toNat c.toNat)) (w.alloc (.cells cells e))/\cells.size=c.toNat*sz/\
   cF w G (List.replicate n.toNat zero).flatten (cells.toList.take (n.toNat*sz))/\∀b xs,cu b (List.replicate n.toNat zero).flatten xs=0:=by
 obtain⟨i,z,hi,Ub,o8,NP,_⟩:=oD hz w G;obtain⟨i',rV,FG,_⟩:=nh dF;rw[hi]at rV;cases rV;have hb:i.bytes=bytes:=by simpa [wY,hi] using hby
 have:=run_make (P:=P) w t e i z hu hi Ub .i64 .i64 n c h0 h1 (by rw[hb,Int.mul_comm];simp only[cR]at h2;omega) h3;refine⟨madeCells z.cells (c.toNat*i.size),by simp only[execOp,ho,hx,hy,Sem.run_bind,this,Result.andThen_ok,Sem.run_pure],by rw[size_madeCells,FG],?_,λb xs=>?_⟩;have hle:n.toNat*sz<=c.toNat*sz:=Nat.mul_le_mul_right _ (by omega);have h:=FJ (w:=w) (G:=G) (n:=c.toNat) o8 Mu Ug;have h':=h.take (n.toNat*sz);rw[FG];unfold madeCells;have e:(List.replicate c.toNat zero).flatten.take (n.toNat*sz)=(List.replicate n.toNat zero).flatten:=by
  have:c.toNat=n.toNat+(c.toNat-n.toNat):=by omega
  rw[this,<-List.replicate_append_replicate,List.flatten_append,List.take_left'];exact gx (sz:=sz) _ (λr hr=>by rw[List.eq_of_mem_replicate hr,Mu]) |>.trans (by simp)
 rw[e]at h';exact h';refine eE b _ _ ((de _).2 λc hc=>?_);obtain⟨r,hr,hc⟩:=List.mem_flatten.1 hc;rw[List.eq_of_mem_replicate hr]at hc;exact(NP c hc).1
theorem Uh{st:aj}{bx:bF}(hI:jQ w G st)(hB:lH w G β bx){cO:Nat->Nat}:∃G',kA w G β st bx cO (w.alloc (.map #[] 0)) G' β (st++[.map []]) bx (.val (.map st.length)) (.map (some w.heap.size)):=by
 have hl:(G.new w.heap.size (some 0) [⟨some ⟨w.heap.size,0,none⟩,1,0,0,0,true,[]⟩]).ls[st.length]?=some ⟨some ⟨w.heap.size,0,none⟩,1,0,0,0,true,[]⟩:=by
  simp only[bp.new];rw[List.getElem?_append_right (by rw[hI.len];exact Nat.le_refl _),hI.len];simp
 refine⟨_,sA (loc:=⟨some ⟨w.heap.size,0,none⟩,1,0,0,0,true,[]⟩) (ao:=.map []) (w':=w.alloc (.map #[] 0)) (ob:=.map #[] 0) rfl rfl rfl hI hB ⟨rfl,rfl,w.heap.size,#[],0,rfl,tq rfl,by simp[bp.new],rfl,λi k v e h=>by simp at h⟩ (.map _ _ _ hl rfl rfl) rfl λb=>?_⟩;simp only[je,mC.jF];by_cases hb:b=w.heap.size;subst hb;simp;simp[hb];rw[if_neg λh=>hb h.symm];omega
end Ax
namespace Ax
open Go
variable {P:Program}{w w':World}{G G':bp}{β gZ:List m9}{ρ:Operand->Value}{o:Oper}
theorem pI{α:Type}{sz:Nat}:∀(rows:List (List α))(k:Nat)(c:α),(∀r∈rows,r.length=sz)->rows.flatten[k]?=some c->∃i j r,k=i*sz+j/\rows[i]?=some r/\r[j]?=some c
 |[],k,c,_,h=>by simp at h|r0::rows,k,c,hf,h=>by
  have h0:r0.length=sz:=hf r0 (by simp);simp only[List.flatten_cons]at h;by_cases hk:k<r0.length;rw[List.getElem?_append_left hk]at h;exact⟨0,k,r0,by simp,rfl,h⟩;rw[List.getElem?_append_right (by omega)]at h;obtain⟨i,j,r,e1,e2,e3⟩:=pI rows _ c (λr hr=>hf r (by simp[hr])) h;exact⟨i+1,j,r,by rw[Nat.succ_mul];omega,by simpa using e2,e3⟩
theorem ue:∀(rows:List (List AV))(vals:List (List Value)),rows.length=vals.length->(∀(i:Nat) r xs,rows[i]?=some r->vals[i]?=some xs->cF w G r xs)->cF w G rows.flatten vals.flatten
 |[],[],_,_=>⟨rfl,λi c v h=>by simp at h⟩
 |[],_::_,h,_=>by simp at h|_::_,[],h,_=>by simp at h|r::rows,x::vals,hl,h=>by
  obtain⟨a1,a2⟩:=h 0 r x rfl rfl;obtain⟨b1,b2⟩:=ue rows vals (by simpa using hl) λi r xs h1 h2=>h (i+1) r xs (by simpa using h1) (by simpa using h2);refine⟨by simp only[List.flatten_cons,List.length_append,a1,b1],λi c v h1 h2=>?_⟩;simp only[List.flatten_cons]at h1 h2;by_cases hi:i<r.length;rw[List.getElem?_append_left hi]at h1;rw[List.getElem?_append_left (by omega)]at h2;exact a2 i c v h1 h2;rw[List.getElem?_append_right (by omega)]at h1;rw[List.getElem?_append_right (by omega),<-a1]at h2;exact b2 _ c v h1 h2
theorem zq(b:Nat):∀(rows:List (List AV))(vals:List (List Value)),rows.length=vals.length->(∀(i:Nat) r xs,rows[i]?=some r->vals[i]?=some xs->r.length=xs.length)->cu b rows.flatten vals.flatten=iP b rows vals
 |[],[],_,_=>rfl|[],_::_,h,_=>by simp at h|_::_,[],h,_=>by simp at h|r::rows,x::vals,hl,h=>by
  simp only[List.flatten_cons,iP];rw[gH b r _ x _ (h 0 r x rfl rfl),zq b rows vals (by simpa using hl) λi r xs h1 h2=>h (i+1) r xs (by simpa using h1) (by simpa using h2)]
theorem cF.append{as bs:List AV}{xs ys:List Value}(h:cF w G as xs)(k:cF w G bs ys):cF w G (as++bs) (xs++ys):=by
 refine⟨by simp[h.1,k.1],λi c v h1 h2=>?_⟩;by_cases hi:i<as.length;rw[List.getElem?_append_left hi]at h1;rw[List.getElem?_append_left (by rw[<-h.1];exact hi)]at h2;exact h.2 i c v h1 h2;rw[List.getElem?_append_right (by omega)]at h1;rw[List.getElem?_append_right (by rw[<-h.1];omega),<-h.1]at h2;exact k.2 _ c v h1 h2
theorem II{sz:Nat}{rows:List (List AV)}{a:Addr}{n cap:Nat}(h:bC w G (.dL sz rows) (.slice (some a) n cap)) :
  n=rows.length/\a.spot=none/\bN sz rows=true/\(∀r∈rows,AV.eY r=true)/\(∀r∈rows,AV.ai r=true)/\(∀r∈rows,AV.bq r=true)/\
  ∃xs:List Value,cF w G rows.flatten xs/\∀(k:Nat) x,xs[k]?=some x->w.cell? ⟨a.block,a.off+k,none⟩=some x:=by
 cases h with
 |dL _ _ _ _ nE g8 cJ jy qI wU hc hr=>
 refine⟨rfl,nE,cJ,jy,qI,wU,(List.range rows.flatten.length).map λk=>(w.cell? ⟨a.block,a.off+k,none⟩).getD undef,⟨by simp,λk c v h1 h2=>?_⟩,λk x h=>?_⟩;obtain⟨i,j,r,rfl,e2,e3⟩:=pI rows k c (dg.1 cJ) h1;obtain⟨_,y,hy⟩:=hc i r j c e2 e3;have hk:=(List.getElem?_eq_some_iff.1 h1).1;rw[List.getElem?_map,List.getElem?_range hk,Option.map_some,hy]at h2;cases h2;exact hr i r j c y e2 e3 hy;have hk:k<rows.flatten.length:=by have:=(List.getElem?_eq_some_iff.1 h).1;simpa using this
 rw[List.getElem?_map,List.getElem?_range hk,Option.map_some]at h;obtain⟨i,j,r,rfl,e2,e3⟩:=pI rows k _ (dg.1 cJ) (List.getElem?_eq_getElem hk);obtain⟨_,y,hy⟩:=hc i r j _ e2 e3;rw[hy]at h ⊢;simpa using h
theorem Bx(a:AV):a.view.cx=a.cx:=by cases a<;>simp[AV.view,AV.cx]
theorem rm:∀(cs:List AV),AV.bq (AV.cq cs)=AV.bq cs
 |[]=>rfl|c::cs=>by
  have:=rm cs;simp only[AV.bq]at this;simp only[AV.cq,AV.bq,List.all_cons,Bx,this]
theorem yd:∀(rows:List (List AV)),(rows.map AV.cq).flatten=AV.cq rows.flatten
 |[]=>rfl|r::rows=>by
  have acB:∀a b:List AV,AV.cq (a++b)=AV.cq a++AV.cq b:=by
   intro a b;induction a with
   |nil=>rfl|cons x a ih=>simp only[List.cons_append,AV.cq,ih]
  simp only[List.map_cons,List.flatten_cons,acB,yd rows]
theorem NU(l:List UInt8):(nu l).flatten=l.map λb=>AV.int .u8 b.toNat:=by
 unfold nu;induction l with
 |nil=>rfl|cons b l ih=>simp only[List.map_cons,List.flatten_cons,ih];rfl
theorem FK{st:aj}(hI:jQ w G st){a:AV}{v:Value}{rows:List (List AV)}(h:bC w G a v)(hb:dY st a=some rows){sz:Nat}(hf:bN sz rows=true){tx:TypeId}
  (hk:(∃e',P.underlying tx=some (.slice e'))\/P.underlying tx=some .string) :
  ∃xs,cF w G rows.flatten xs/\Go.Src P sz tx v rows.length xs w/\(∀r∈rows,AV.bq r=true)/\(∀r∈rows,AV.eY r=true)/\((∀id cy,a≠.mu id cy)->∀r∈rows,AV.ai r=true):=by
 have slice:∀(ad:Addr) (c:Nat) (xs:List Value),ad.spot=none->cF w G rows.flatten xs->(∀(k:Nat) x,xs[k]?=some x->w.cell? ⟨ad.block,ad.off+k,none⟩=some x)->(∀r∈rows,AV.bq r=true)->
   Go.Src P sz tx (.slice (some ad) rows.length c) rows.length xs w:=by
  intro ad c xs nE fR hx kB;have hl:xs.length=rows.length*sz:=by rw[<-fR.1];exact gx rows (dg.1 hf)
  obtain⟨bl,of,sp⟩:=ad;simp only at nE hx;subst nE;have WX:∀j u,xs[j]?=some u->w.cell? ((⟨bl,of,none⟩:Addr).add j)=some u:=λj u h=>by rw[mN];exact hx j u h
  have P1:∀u∈xs,u.oneCell'=true:=fR.Ye (by
   simp only[AV.bq,List.all_eq_true];intro c hc;obtain⟨r,hr,hc⟩:=List.mem_flatten.1 hc;have:=kB r hr;simp only[AV.bq,List.all_eq_true]at this;exact this c hc)
  exact⟨hk,λ_=>rfl,run_firstCells_some w sz rows.length ⟨bl,of,none⟩ rows.length c xs hl WX,run_firstCells_some w.drew sz rows.length ⟨bl,of,none⟩ rows.length c xs hl (by simpa using WX),hl,P1⟩
 have dL:∀s,bC w G (.dL s rows) v->∃xs,cF w G rows.flatten xs/\Go.Src P sz tx v rows.length xs w/\(∀r∈rows,AV.bq r=true)/\(∀r∈rows,AV.eY r=true)/\((∀id cy,a≠.mu id cy)->∀r∈rows,AV.ai r=true):=by
  intro s h;have h0:∃a n c,v=.slice (some a) n c:=by cases h;exact⟨_,_,_,rfl⟩
  obtain⟨ad,n,c,rfl⟩:=h0;obtain⟨e1,e2,e3,e4,e5,e6,xs,e7,e8⟩:=II h;subst e1;exact⟨xs,e7,slice ad c xs e2 e7 e8 e6,e6,e4,λ_=>e5⟩
 have W3:rows=[]->∀c,v=.slice none 0 c->∃xs,cF w G rows.flatten xs/\Go.Src P sz tx v rows.length xs w/\(∀r∈rows,AV.bq r=true)/\(∀r∈rows,AV.eY r=true)/\((∀id cy,a≠.mu id cy)->∀r∈rows,AV.ai r=true):=by
  intro h0 c hv;subst h0;subst hv;exact⟨[],⟨rfl,λi c v h=>by simp at h⟩,⟨hk,λ_=>rfl,run_firstCells_none w sz 0 0 c,run_firstCells_none w.drew sz 0 0 c,by simp,λu hu=>by cases hu⟩,by simp,by simp,by simp⟩
 unfold dY at hb;split at hb
 ·rename_i l;cases hb;obtain⟨s,rfl,rfl⟩:=h.mT;refine⟨byteCells s,?_,?_,?_,?_,?_⟩;rw[NU];unfold byteCells;refine⟨by simp,λi c v h1 h2=>?_⟩;simp only[List.getElem?_map,Option.map_eq_some_iff]at h1 h2;obtain⟨b,h1,rfl⟩:=h1;obtain⟨b',h2,rfl⟩:=h2;rw[h1]at h2;cases h2;exact .int _ _;have hlen:(nu s.data.toList).length=s.size:=by simp[nu]
  rw[hlen];have one:∀u∈byteCells s,u.oneCell'=true:=λu hu=>by
   obtain⟨_,_,rfl⟩:=List.mem_map.1 hu
   rfl
  by_cases hs:sz=1;subst hs;exact⟨hk,λ_=>rfl,firstCells_string s w,firstCells_string s w.drew,by rw[byteCells_length,Nat.mul_one],one⟩;have h0:s.size=0:=by
   rcases Nat.eq_zero_or_pos s.size with h|h;exact h;have h2:s.data.toList≠[]:=by
    intro h3;have:s.data.toList.length=s.size:=by simp
    rw[h3]at this;simp at this;omega
   obtain⟨b,l,hl⟩:=List.exists_cons_of_ne_nil h2;rw[hl]at hf;simp[bN,nu]at hf;exact absurd hf.1.symm hs
  have yH:byteCells s=[]:=by
   apply List.eq_nil_of_length_eq_zero;rw[byteCells_length,h0]
  have hfc:∀w',(Builtin.firstCells sz s.size (.string s)).run P w'=.ok (byteCells s).toArray w':=λw'=>firstCells_string s w';exact⟨hk,λ_=>rfl,hfc w,hfc w.drew,by rw[yH,h0,Nat.zero_mul];rfl,one⟩;all_goals
   intros
   rename_i hr;simp only[nu,List.mem_map]at hr;obtain⟨b,_,rfl⟩:=hr;simp[AV.bq,AV.cx,AV.eY,AV.cC,AV.ai,AV.ax]
 ·rename_i id cy;split at hb
  ·rename_i eS hr;cases hb;simp only[fJ]at hr;split at hr
   ·rename_i v' s agS iu;split at hr
    ·rename_i hv;cases hr;obtain⟨loc,hl,E2,Ca,jv⟩:=hI.loc iu;cases h with
     |mu _ _ _ loc' hp sJ FC he=>
      rw[hl]at sJ;cases sJ;have hve:cy=loc.cy:=(by omega);have cY:=he hve;rw[jv.len]at cY;have kB:∀r∈eS.map AV.cq,AV.bq r=true:=λr hr=>by
       obtain⟨r',xS,rfl⟩:=List.mem_map.1 hr;rw[rm];exact jv.E1 r' xS
      have jy:∀r∈eS.map AV.cq,AV.eY r=true:=λr hr=>by
       obtain⟨r',xS,rfl⟩:=List.mem_map.1 hr;exact gD r'
      rcases jv.sK with⟨h0,sM,_⟩|⟨b,off,c,e',KD,g8,iC,hle,hlen,jz,fA⟩
      ·subst sM;simp only[List.length_nil]at cY;cases acD:loc.a with
       |none=>
        rw[acD]at cY;exact W3 (by simp) _ cY
       |some ad=>
        refine⟨[],⟨rfl,λi c v h=>by simp at h⟩,⟨hk,λ_=>by rw[cY];simp[Builtin.lenOf],?_,?_,by simp,by simp⟩,kB,jy,λh=>absurd rfl (h id cy)⟩;all_goals
         rw[cY,acD];simp[Builtin.firstCells,loadCells,loadCellsFrom]
      rw[KD]at cY;subst cY;have fR:cF w G (eS.map AV.cq).flatten loc.vals.flatten:=by
       rw[yd];exact(ue eS loc.vals jv.tj.symm jv.tZ).view
      have Mw:∀r∈loc.vals,r.length=s:=λr hr=>by
       obtain⟨i,hi,rfl⟩:=List.mem_iff_getElem.1 hr;have rV:i<eS.length:=(by rw[<-jv.tj];exact hi);rw[<-(jv.tZ i eS[i] loc.vals[i] (List.getElem?_eq_getElem rV) (List.getElem?_eq_getElem hi)).1];exact dg.1 jv.FE _ (List.getElem_mem rV)
      have:=slice ⟨b,off,none⟩ loc.cap loc.vals.flatten rfl fR (λk x hx=>by
       obtain⟨i,j,r,rfl,e2,e3⟩:=pI loc.vals k x Mw hx;exact fA i r j x e2 e3) kB
      simp only[List.length_map]at this ⊢;exact⟨_,fR,this,kB,jy,λh=>absurd rfl (h id cy)⟩
    cases hr
   cases hr
  cases hb
 ·rename_i hn1 hn2;unfold fJ at hb;split at hb;cases hb;cases h;exact W3 rfl _ rfl
  ·cases hb;cases h;rename_i ad;refine⟨[],⟨rfl,λi c v h=>by simp at h⟩,⟨hk,λ_=>rfl,?_,?_,by simp,by simp⟩,by simp,by simp,by simp⟩;all_goals simp[Builtin.firstCells,loadCells,loadCellsFrom]
  cases hb;exact dL _ h;cases hb;exact dL _ h.view;rename_i id cy;exact absurd rfl (hn2 id cy);cases hb
end Ax
namespace Ax
open Go
variable {P:Program}{w w':World}{G G':bp}{β gZ:List m9}{ρ:Operand->Value}{o:Oper}
theorem lQ(g p:Nat)(t:TypeId)(vs:List Value)(fP:Array Value)(w:World)(hg:w.heap[g]?=some (.cells fP t (0,0)))(hl:p+vs.length<=fP.size)(h1:∀v∈vs,v.oneCell'=true) :
  (storeCells ⟨g,p,none⟩ vs).run P w=.ok () (w.setRow g (ag fP.toList p vs).toArray):=by
 have:=run_storeCells_at P g p t vs 0 fP w hg (by simpa using hl) h1;rw[jU _ _ _ (by simpa using hl)];simpa using this
structure Wr (w:World)(G:bp)(w':World)(G':bp)(b:Nat):Prop where
 size:w'.heap.size=w.heap.size
 heap:∀b',b'≠b->w'.heap[b']?=w.heap[b']?
 Ui:∀b',b'≠b->G'.mM b'=G.mM b'
 mM:∃p p',G.mM b=some p/\G'.mM b=some p'/\p<=p'/\∀o,o<p->w'.cell? ⟨b,o,none⟩=w.cell? ⟨b,o,none⟩
 Mj:∀(id:Nat) loc,G.ls[id]?=some loc->∃loc',G'.ls[id]?=some loc'/\loc.cy<=loc'.cy/\(loc.cy=loc'.cy\/loc.mp=true->loc'.hd=loc.hd)
theorem Wr.jK{b:Nat}(h:Wr w G w' G' b):sH w G w' G' where
 PM:=λb' o hi=>by
  by_cases hb:b'=b;subst hb;obtain⟨p,p',h1,h2,h3,h4⟩:=h.mM;have ho:=hi.2 p h1;refine⟨h4 o ho,by rw[h.size];exact hi.1,λq hq=>?_⟩;rw[h2]at hq;cases hq;omega;refine⟨qn (h.heap b' hb),by rw[h.size];exact hi.1,λp hp=>?_⟩;rw[h.Ui b' hb]at hp;exact hi.2 p hp
 Mj:=h.Mj
theorem Wr.kY{b b':Nat}(h:Wr w G w' G' b)(hb:b'≠b):eR w G w' G' b':=⟨h.Ui b' hb,h.heap b' hb⟩
theorem Df(G:bp):∀(id:Nat) loc,G.ls[id]?=some loc->∃loc',G.ls[id]?=some loc'/\loc.cy<=loc'.cy/\(loc.cy=loc'.cy\/loc.mp=true->loc'.hd=loc.hd):=λ_ loc h=>⟨loc,h,Nat.le_refl _,λ_=>rfl⟩
def bp.at(G:bp)(id:Nat)(loc:mC):bp:=⟨G.ls.set id loc,G.mM⟩
theorem GZ{id:Nat}{loc loc':mC}(hl:G.ls[id]?=some loc)(hv:loc.cy<=loc'.cy)(hh:loc.cy=loc'.cy\/loc.mp=true->loc'.hd=loc.hd):∀(i:Nat) l,G.ls[i]?=some l->∃l',(G.at id loc').ls[i]?=some l'/\l.cy<=l'.cy/\(l.cy=l'.cy\/l.mp=true->l'.hd=l.hd):=by
 intro i l h;by_cases hi:i=id;subst hi;rw[hl]at h;cases h;exact⟨loc',by simp only[bp.at];rw[List.getElem?_set,if_pos rfl,if_pos (List.getElem?_eq_some_iff.1 hl).1],hv,hh⟩;exact⟨l,by simp only[bp.at];rw[List.getElem?_set,if_neg (λe=>hi e.symm)];exact h,Nat.le_refl _,λ_=>rfl⟩
theorem P2{id:Nat}{loc loc':mC}(hl:G.ls[id]?=some loc)(hv:loc.cy<=loc'.cy)(hh:loc.cy=loc'.cy\/loc.mp=true->loc'.hd=loc.hd):sH w G w (G.at id loc'):=
 ⟨λ_ _ h=>⟨rfl,h⟩,GZ hl hv hh⟩
theorem Cx{st:aj}(hI:jQ w G st)(hs:sH w G w' G'){id:Nat}{loc':mC}{Im:dy}(G4:G'.ls=G.ls.set id loc')(hu:∀(i:Nat) l ob b,i≠id->G.ls[i]?=some l->st[i]?=some ob->0<je b l ob->eR w G w' G' b)
  (vg:qY w' G' Im loc')(ht:∀b p,G'.mM b=some p->b<w'.heap.size):jQ w' G' (st.set id Im) where
 len:=by rw[G4];simp[hI.len]
 aT:=λi ob loc h1 h2=>by
  rw[G4]at h2;rw[List.getElem?_set]at h1 h2;by_cases hi:id=i;subst hi;rw[if_pos rfl]at h1 h2;split at h1;split at h2;cases h1;cases h2;exact vg;cases h2;cases h1;rw[if_neg hi]at h1 h2;exact(hI.aT i ob loc h1 h2).jK hs λb hb=>hu i loc ob b (λe=>hi e.symm) h2 h1 hb
 nO:=ht
theorem vN{st:aj}(hI:jQ w G st)(hs:sH w G w' G')(G4:G'.ls=G.ls)(hu:∀b,0<cz b G.ls st->eR w G w' G' b)(ht:∀b p,G'.mM b=some p->b<w'.heap.size):jQ w' G' st where
 len:=by rw[G4];exact hI.len
 aT:=λi ob loc h1 h2=>by
  rw[G4]at h2;refine(hI.aT i ob loc h1 h2).jK hs λb hb=>hu b ?_;have:=pH b G.ls st i loc ob h2 h1;omega
 nO:=ht
theorem nw{bx:bF}(hB:lH w G β bx)(hs:sH w G w' G')(hu:∀b,0<gT b β bx->eR w G w' G' b):lH w' G' β bx where
 len:=hB.len
 box:=λj row g h1 h2=>(hB.box j row g h1 h2).jK hs λb hb=>hu b (by
  have:=nQ b β bx j g row h2 h1;omega)
theorem Wr.nO{b:Nat}{st:aj}(h:Wr w G w' G' b)(hI:jQ w G st):∀b p,G'.mM b=some p->b<w'.heap.size:=by
 intro b' p hp;rw[h.size];by_cases hb:b'=b;subst hb;obtain⟨q,q',h1,_⟩:=h.mM;exact hI.nO _ _ h1;rw[h.Ui b' hb]at hp;exact hI.nO _ _ hp
theorem G5{b p p':Nat}{fP:Array Value}{e:TypeId}{q:Nat}{vs:List Value}{ls:List mC}(hg:w.heap[b]?=some (.cells fP e (0,0)))(hl:q+vs.length<=fP.size)(ht:G.mM b=some p)(TO:p<=q)(hpp:p<=p')
  (IJ:∀(id:Nat) loc,G.ls[id]?=some loc->∃loc',ls[id]?=some loc'/\loc.cy<=loc'.cy/\(loc.cy=loc'.cy\/loc.mp=true->loc'.hd=loc.hd)) :
  Wr w G (w.setRow b (ag fP.toList q vs).toArray) ⟨ls,λb'=>if b'=b then some p' else G.mM b'⟩ b where
 size:=setRow_size _ _ _
 heap:=λb' hb=>setRow_other w b b' _ hb
 Ui:=λb' hb=>by simp[hb]
 mM:=⟨p,p',ht,by simp,hpp,λo ho=>by
  rw[cell_setRow_same w b o fP _ e (0,0) hg];have:w.cell? ⟨b,o,none⟩=fP[o]?:=by simp[World.cell?,hg]
  rw[this,List.getElem?_toArray,ju _ _ _ _ (by simpa using hl),if_neg (by omega)];simp⟩
 Mj:=IJ
theorem vO{b q k:Nat}{fP:Array Value}{e:TypeId}{vs:List Value}(hg:w.heap[b]?=some (.cells fP e (0,0)))(hl:q+vs.length<=fP.size) :
  (w.setRow b (ag fP.toList q vs).toArray).cell? ⟨b,k,none⟩=if q<=k/\k<q+vs.length then vs[k-q]? else w.cell? ⟨b,k,none⟩:=by
 rw[cell_setRow_same w b k fP _ e (0,0) hg];have:w.cell? ⟨b,k,none⟩=fP[k]?:=by simp[World.cell?,hg]
 rw[this,List.getElem?_toArray,ju _ _ _ _ (by simpa using hl)];simp
structure KI (P:Program)(t tx e:TypeId)(sz bytes:Nat)(i:TypeInfo)(z:Value):Prop where
 ht:P.underlying t=some (.slice e)
 hi:P.info? e=some i
 hz:i.zero=some z
 dF:i.size=sz
 hby:i.bytes=bytes
 Yg:z.cells.size=sz
 pos:0<sz
 agT:0<bytes
 kind:(∃e',P.underlying tx=some (.slice e'))\/P.underlying tx=some .string
theorem Uj{n bytes:Nat}(h:n*bytes<=140737488355328)(hb:0<bytes):((n:Nat):Int)<=9223372036854775807:=by
 have:n<=n*bytes:=Nat.le_mul_of_pos_right n hb;omega
theorem rq{t tx ty e:TypeId}{sz bytes:Nat}{i:TypeInfo}{z:Value}(h:KI P t tx e sz bytes i z)(b off jN nF:Nat)(fP:Array Value)(e0:TypeId)(hg:w.heap[b]?=some (.cells fP e0 (0,0)))(x:Value)(n:Nat)(news:List Value)(hs:Go.Src P sz tx x n news w)
  (mE:jN+n<=nF)(cJ:off+nF*sz<=fP.size) :
  (Builtin.append_ #[t,tx] ty #[.slice (some ⟨b,off,none⟩) jN nF,x]).run P w=.ok (.slice (some ⟨b,off,none⟩) (jN+n) nF) (w.setRow b (ag fP.toList (off+jN*sz) news).toArray):=by
 have hle:off+jN*sz+news.length<=fP.size:=by
  rw[hs.newsLen];have:(jN+n)*sz<=nF*sz:=Nat.mul_le_mul_right _ mE;rw[Nat.add_mul]at this;omega
 have iu:=lQ (P:=P) b (off+jN*sz) e0 news fP w hg hle hs.one;have hc:=hs.cells;have dF:=h.dF;subst dF;rcases hs.kind with⟨e',hk⟩|hk<;>simp[Builtin.append_,run_underlying h.ht,run_underlying hk,Go.sizeOf,typeInfo,h.hi,hs.len,mE,hc,Addr.add_lit,iu]
theorem ru{t tx ty e:TypeId}{sz bytes:Nat}{i:TypeInfo}{z:Value}(h:KI P t tx e sz bytes i z)(base:Option Addr)(jN nF:Nat)(olds:List Value)
  (hold:(Builtin.firstCells sz jN (.slice base jN nF)).run P w.drew=.ok olds.toArray w.drew)(Uk:olds.length=jN*sz)(x:Value)(n:Nat)(news:List Value)(hs:Go.Src P sz tx x n news w)
  (hg:nF<jN+n) (hb:(jN+n)*bytes<=140737488355328) :
  ∃cap c,(Builtin.append_ #[t,tx] ty #[.slice base jN nF,x]).run P w=.ok (.slice (some ⟨w.heap.size,0,none⟩) (jN+n) cap) (w.drew.alloc (.cells c e))/\jN+n<=cap/\cap*sz<=c.size/\
   ∀(k:Nat) v,(olds++news)[k]?=some v->c[k]?=some v:=by
 have dF:=h.dF;subst dF;have hby:=h.hby;subst hby;refine⟨_,_,run_append_grow_src w t tx ty e i z h.ht h.hi h.hz base jN nF olds hold x n news hs hg (Uj hb h.agT) (growslice_fits hg hb),grownCap_ge _ _ _ _,?_,λk v hv=>?_⟩;have h1:=grownCap_ge w (jN+n) nF e;rw[Array.size_append,size_zeroCells,h.Yg];simp only[List.size_toArray,List.length_append,Uk,hs.newsLen];rw[<-Nat.add_mul,<-Nat.add_mul];exact Nat.mul_le_mul_right _ (by omega);have hk:=(List.getElem?_eq_some_iff.1 hv).1;rw[Array.getElem?_append,if_pos (by simpa using hk)];simpa using hv
theorem FL(a:Addr):w.drew.cell? a=w.cell? a:=rfl
theorem By{sz:Nat}{a b:List (List AV)}(h:bN sz a=true)(k:bN sz b=true):bN sz (a++b)=true:=by
 rw[dg]at *;intro r hr;rcases List.mem_append.1 hr with h'|h';exact h r h';exact k r h'
theorem qo{a b:List (List AV)}{p:List AV->Prop}(h:∀r∈a,p r)(k:∀r∈b,p r):∀r∈a++b,p r:=by
 intro r hr;rcases List.mem_append.1 hr with h'|h';exact h r h';exact k r h'
theorem P4{t tx ty e:TypeId}{sz bytes:Nat}{i:TypeInfo}{z:Value}(h:KI P t tx e sz bytes i z){st:aj}{bx:bF}(hI:jQ w G st)(hB:lH w G β bx){cO:Nat->Nat}(hX:∀b,cO b+gT b β bx+cz b G.ls st<=1)
  {s x:AV}{vs vx:Value}(hs:bC w G s vs)(hx:bC w G x vx)(jO:∀b,gu b s vs<=cO b){wl af:Nat}{bV:aj}{gC:bF}{r:fq}(ha:aV wl af (.append sz bytes) [.val s,.val x] st bx=some (r,bV,gC)) :
  ∃v w' G',(Builtin.append_ #[t,tx] ty #[vs,vx]).run P w=.ok v w'/\kA w G β st bx cO w' G' β bV gC r v:=by
 simp only[aV]at ha;split at ha;cases ha
 ·rename_i new vg;split at ha
  ·rename_i cJ;have Km:∀id cy,x≠.mu id cy:=by
    intro id cy hx;subst hx;simp[dY,fJ]at vg
   have acE:dY st x=some new:=by
    unfold dY at vg ⊢;cases x<;>simp_all [fJ]
   obtain⟨news,fR,xT,kB,jy,qI⟩:=FK hI hx acE cJ h.kind;have qI:=qI Km;have fresh:∀base,(Builtin.firstCells sz 0 (.slice base 0 0)).run P w.drew=.ok ([]:List Value).toArray w.drew->new≠[]->new.length*bytes<=cR->
     ∃v w' G',(Builtin.append_ #[t,tx] ty #[.slice base 0 0,vx]).run P w=.ok v w'/\kA w G β st bx cO w' G' β st bx (.val (.iO sz new)) v:=by
    intro base hf jn hr;have hn:0<new.length:=List.length_pos_iff.2 jn;obtain⟨cap,c,e1,e2,e3,e4⟩:=ru (ty:=ty) h base 0 0 [] hf (by simp) vx new.length news xT (by omega) (by simpa [cR] using hr);simp only[Nat.zero_add,List.nil_append]at e1 e2 e4;obtain⟨G',hA⟩:=GY (w':=w.drew.alloc (.cells c e)) (cO:=cO) hI hB rfl rfl rfl cJ kB jy qI fR e3 e2 e4;exact⟨_,_,G',e1,hA⟩
   split at ha;split at ha;rename_i AO;cases ha;have h0:new=[]:=(by simpa using AO);subst h0;cases hs;have hn:news=[]:=by
    have:=fR.1;simp at this;exact List.eq_nil_of_length_eq_zero this.symm
   subst hn;have:=run_append_nothing w t tx ty e i h.ht h.hi none 0 0 (Nat.le_refl _) vx (by rw[h.dF];exact xT);exact⟨_,_,_,this,kA.nR hI hB (bC.U) λb=>by simp[cL,gu]⟩;rename_i AO;split at ha;rename_i hr;cases ha;cases hs;exact fresh none (run_firstCells_none _ _ _ _ _) (by simpa using AO) hr;cases ha
   ·split at ha
    ·rename_i AO;cases ha;have h0:new=[]:=(by simpa using AO);subst h0;have hn:news=[]:=by
      have:=fR.1;simp at this;exact List.eq_nil_of_length_eq_zero this.symm
     subst hn;cases hs with
     |mK a=>
     have:=run_append_nothing w t tx ty e i h.ht h.hi (some a) 0 0 (Nat.le_refl _) vx (by rw[h.dF];exact xT);exact⟨_,_,_,this,kA.nR hI hB (bC.mK a) λb=>by simp[cL,gu]⟩
    ·rename_i AO;split at ha
     ·rename_i hr;cases ha;cases hs with
      |mK a=>
      exact fresh (some a) (by simp[Builtin.firstCells,loadCells,loadCellsFrom]) (by simpa using AO) hr
     cases ha
   ·rename_i lF kJ;split at ha
    ·rename_i hc;simp only[Bool.and_eq_true,decide_eq_true_eq]at hc;obtain⟨rfl,hr⟩:=hc;cases ha;have hv:=hs.view;cases hs with
     |iO _ _ a cap nE g8 hfo Yi acF acG yH IK jz gQ=>
     simp only[AV.view]at hv;obtain⟨_,_,_,_,_,_,olds,hro,hxo⟩:=II hv;obtain⟨b,off,sp⟩:=a;simp only at nE jz gQ hxo;subst nE;have Uk:olds.length=kJ.length*lF:=(by rw[<-hro.1];exact gx kJ (dg.1 hfo));have P6:news.length=new.length*lF:=xT.newsLen;have ku:=By hfo cJ;have ye:(kJ++new).flatten=kJ.flatten++new.flatten:=List.flatten_append;by_cases mE:kJ.length+new.length<=cap;obtain⟨c,e0,hg,W4⟩:=gQ;have hle:off+kJ.length*lF+news.length<=c.size:=by
      rw[P6];have:(kJ.length+new.length)*lF<=cap*lF:=Nat.mul_le_mul_right _ mE;rw[Nat.add_mul]at this;omega
     have e1:=rq (ty:=ty) h b off kJ.length cap c e0 hg vx new.length news xT mE W4;have hW:Wr w G (w.setRow b (ag c.toList (off+kJ.length*lF) news).toArray) ⟨G.ls,λb'=>if b'=b then some (off+(kJ++new).length*lF) else G.mM b'⟩ b:=
      G5 hg hle jz (Nat.le_refl _) (by rw[List.length_append,Nat.add_mul];omega) (Df G)
     have mh:cO b=1/\gT b β bx=0/\cz b G.ls st=0:=by
      have h1:=hX b;have h2:=jO b;simp only[gu,if_true]at h2;omega
     have IL:∀b',b'≠b->eR w G _ _ b':=λb' hb=>hW.kY hb;refine⟨_,_,⟨G.ls,λb'=>if b'=b then some (off+(kJ++new).length*lF) else G.mM b'⟩,e1,?_⟩;have acH:cF (w.setRow b (ag c.toList (off+kJ.length*lF) news).toArray) ⟨G.ls,λb'=>if b'=b then some (off+(kJ++new).length*lF) else G.mM b'⟩ (kJ++new).flatten (olds++news):=by
      rw[ye];refine(hro.append fR).mono hW.jK λb' oE=>?_;rw[<-ye,eE b' _ _ ((de _).2 λx hx=>?_)]at oE;omega;obtain⟨r,hr,hx⟩:=List.mem_flatten.1 hx;exact(de r).1 (qo Yi jy r hr) x hx
     have iC:=setRow_heap w b c (ag c.toList (off+kJ.length*lF) news).toArray e0 (0,0) hg;have Yf:=GX (cap:=cap) ku (qo acG kB) (qo Yi jy) (qo acF qI) acH iC (by rw[List.size_toArray,eU];simpa using W4) (by simpa using mE) (by simp) (λk x hk=>by
      rw[List.getElem?_toArray,ju _ _ _ _ (by simpa using hle)];by_cases KJ:k<olds.length;rw[List.getElem?_append_left KJ]at hk;rw[if_neg (by omega)];have:=hxo k x hk;simpa [World.cell?,hg] using this;rw[List.getElem?_append_right (by omega)]at hk;have aW:=(List.getElem?_eq_some_iff.1 hk).1;rw[if_pos (by omega)];rw[show off+k-(off+kJ.length*lF)=k-olds.length by omega];exact hk)
     refine⟨hW.jK,vN hI hW.jK rfl (λb' oE=>IL b' ?_) (hW.nO hI),nw hB hW.jK λb' oE=>IL b' ?_,by rw[<-List.length_append];exact Yf,λb'=>?_,λb' oE _=>IL b' ?_,by simp,rfl,rfl⟩;intro e;subst e;omega;intro e;subst e;omega;have h2:=jO b';simp only[gu]at h2;simp only[cL,gu];omega;intro e;subst e;omega;have xS:(kJ.length+new.length)*bytes<=140737488355328:=hr;have hf:(Builtin.firstCells lF kJ.length (.slice (some ⟨b,off,none⟩) kJ.length cap)).run P w.drew=.ok olds.toArray w.drew:=
      run_firstCells_some w.drew lF kJ.length ⟨b,off,none⟩ kJ.length cap olds Uk (λj v hj=>by rw[mN,FL];exact hxo j v hj)
     obtain⟨NW,c,e1,e2,e3,e4⟩:=ru (ty:=ty) h (some ⟨b,off,none⟩) kJ.length cap olds hf Uk vx new.length news xT (by omega) xS;rw[<-List.length_append]at e1 e2;obtain⟨G',hA⟩:=GY (w':=w.drew.alloc (.cells c e)) (cO:=cO) hI hB rfl rfl rfl ku (qo acG kB) (qo Yi jy) (qo acF qI) (by rw[ye];exact hro.append fR) e3 e2 e4;exact⟨_,_,G',e1,hA⟩
    cases ha
   cases ha
  cases ha
end Ax
