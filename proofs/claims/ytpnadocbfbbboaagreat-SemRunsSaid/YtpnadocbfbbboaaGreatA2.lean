/- Part of a proof. -/
import Derived.Test.YtpnadocbfbbboaaGreatA1
import Derived.Laws.Tables
import Derived.Laws.Cells
import Derived.Laws.CopyRow
import Derived.Great.BuildSlice
import Derived.Laws.MakeOwn
import Derived.Carry
import Derived.Deep.Upon

open List renaming getElem?_eq_some_iff->aad,getElem?_take->acv,getElem?_drop->adw,map_cons->abn,mapM_cons->ahm,getElem?_map->aei,getElem?_eq_getElem->aag,getElem?_range->afb,take_left'->aiN,all_eq_true->aaB,mem_of_mem_take->adz,mem_of_mem_drop->adA,eq_nil_of_length_eq_zero->aaK,set_cons_zero->aev,set_cons_succ->afl,cons_append->acA,getElem?_append_left->aal,append_nil->ac5,getElem?_append_right->aar,flatten_cons->acH,length_append->abv,length_cons->abr,drop_drop->adC,getElem?_set->abp,flatten_nil->aiI,replicate->aak,eq_of_mem_replicate->abt,mem_flatten->aeZ,flatten_append->agq,mem_map->ab9,getElem?_toArray->agZ,size_toArray->aew,mem_append->abw
open Option renaming map_eq_some_iff->acs,map_none->agu,map_some->aef
open Nat renaming add_mul->ae7,le_refl->aau,zero_mul->aiE,zero_add->aex,succ_mul->aeq,mul_le_mul_right->acw
open Bool renaming and_eq_true->aac
open Array renaming toList_extract->agn,toList_map->ahw,getElem?_eq_some_iff->abq,getElem?_push->ah2,size_push->ahJ
namespace Ax
open Go
variable {P:Program}{w:World}{G:bD}{β:List nD}{ρ:Operand->Value}{o:Oper}
variable{c:Call}{x y:Operand}{k:IntKind}{vs cs r zero:List AV}{v:AV}{t:TypeId}{agg:Bool}{fs:Array Field}
theorem L0(h:c.args.toList=[x]):c.args = #[x]:=by
 have:=congrArg List.toArray h;simpa using this
theorem o5(h:c.args.toList=[x,y]):c.args = #[x,y]:=by
 have:=congrArg List.toArray h;simpa using this
theorem aeL(ho:o.op=.call c)(hc:c.callee=.builtin .max)(hx:c.args.toList=[x,y]){a b:Int}
  (ha:bF w G (.int k a) (ρ x))(hb:bF w G (.int k b) (ρ y)):(execOp ρ o).run P w=.ok (.value (.int k (if b > a then b else a))) w:=by
 simp only[execOp,ho,resolve,hc,cg,Sem.run_pure,cZ,invoke,builtin,o5 hx];simp[Builtin.max_,Builtin.max2,ha.iz,hb.iz]
theorem aeM(ho:o.op=.call c)(hc:c.callee=.builtin .min)(hx:c.args.toList=[x,y]){a b:Int}
  (ha:bF w G (.int k a) (ρ x))(hb:bF w G (.int k b) (ρ y)):(execOp ρ o).run P w=.ok (.value (.int k (if b<a then b else a))) w:=by
 simp only[execOp,ho,resolve,hc,cg,Sem.run_pure,cZ,invoke,builtin,o5 hx];simp[Builtin.min_,Builtin.min2,ha.iz,hb.iz]
theorem zn(ho:o.op=.nilCheck x){a:Addr}(hx:ρ x=.pointer (some a)):(execOp ρ o).run P w=.ok (.value (ρ x)) w:=by
 simp only[execOp,ho,hx];rfl
theorem Pr{i:Nat}(ho:o.op=.extract x i)(hv:vs[i]?=some v)(ha:bF w G (.fK vs) (ρ x)) :
  ∃u,(execOp ρ o).run P w=.ok (.value u) w/\bF w G v u/\∀b,gT b v u<=gT b (.fK vs) (ρ x):=by
 generalize hx:ρ x=xv at ha;cases ha with
 |fK _ us hl hh=>
  have hi:i<vs.length:=(aad.1 hv).1;have rN:i<us.size:=by omega
  refine⟨us[i],?_,hh i v us[i] hv (by simp[rN]),λb=>?_⟩;simp only[execOp,ho,hx];simp[Instr.extract,rN];simp only[gT];exact wY b vs us.toList i v us[i] hv (by simp[rN])
theorem sq{k n:Nat}(h:cut cs k n=some r):r=(cs.drop k).take n/\k+n<=cs.length/\r.length=n:=by
 unfold cut at h;split at h;cases h;exact⟨rfl,by assumption,by simp;omega⟩;cases h
theorem zo{b:Bool}(h:nY P t=some b)(w:World):(isAgg t).run P w=.ok b w:=by
 unfold nY at h;split at h;rename_i hu;cases h;simp[isAgg,cj hu];rename_i hu;cases h;simp[isAgg,cj hu];rename_i d h1 h2 hu;cases h;cases d<;>simp_all [isAgg,cj hu];cases h
theorem De(h:cm agg r=some v){xs:List Value}(hx:cU w G r xs) :
  ∃u,(if agg then .agg xs.toArray else xs.headD undef)=u/\bF w G v u/\(∀b,gT b v u=cL b r xs)/\(agg=false->∃c x,r=[c]/\xs=[x]/\v=c/\u=x):=by
 refine⟨_,rfl,?_⟩;unfold cm at h;cases agg with
 |true=>
  simp only[aQ,bh]at h;subst h;refine⟨.agg _ _ (by simpa using hx.1) λi c v hc hv=>hx.2 i c v hc (by simpa using hv),λb=>by simp[gT],by simp⟩
 |false=>
  simp only[Bool.false_eq_true,aS]at h;split at h;rename_i c;cases h;match xs,hx with
  |[x],hx=>exact⟨hx.2 0 v x rfl rfl,λb=>by simp[cL],λ_=>⟨v,x,rfl,rfl,rfl,rfl⟩⟩|[],hx=>simp[cU]at hx|_::_::_,hx=>simp[cU]at hx
  cases h
theorem V3(vs:Array Value)(off n:Nat):vs.extract off (off+n)=((vs.toList.drop off).take n).toArray:=by
 apply Array.ext';simp[agn,List.extract]
theorem V4{f:Nat}(ho:o.op=.field t x f){fd:Field}(hu:P.underlying t=some (.struct fs))(hf:fs[f]?=some fd){off n:Nat}
  (aeN:fd.offset=off)(hn:di P fd.type n=true)(ug:nY P fd.type=some agg)(hc:cut cs off n=some r)(hv:cm agg r=some v)
  (ha:bF w G (.agg cs) (ρ x)):∃u,(execOp ρ o).run P w=.ok (.value u) w/\bF w G v u/\∀b,gT b v u<=gT b (.agg cs) (ρ x):=by
 generalize hx:ρ x=xv at ha;cases ha with
 |agg _ vs hl hh=>
  obtain⟨rfl,hle,hlen⟩:=sq hc;have hC:cU w G cs vs.toList:=⟨by simpa using hl,λi c v h1 h2=>hh i c v h1 (by simpa using h2)⟩;have hR:=(hC.drop off).take n;obtain⟨u,hu',h1,h2,h3⟩:=De hv hR;refine⟨u,?_,h1,λb=>?_⟩;simp only[execOp,ho,hx];simp only[Instr.field,cg,cj hu,cZ,hf,asAgg,Sem.run_pure,part,zo ug,aeN];cases agg with
  |true=>
   simp only[aQ]at hu';subst hu';simp[fF hn,V3]
  |false=>
   obtain⟨c,y,e1,e2,e3,e4⟩:=h3 rfl;have hy:vs[off]?=some y:=by
    have:=congrArg (·[0]?) e2;simp only[acv,adw]at this;split at this;simpa using this;simp at this
   simp[hy,e4]
  rw[h2];simp only[gT];have a1:=Pq b n (cs.drop off) (vs.toList.drop off) (by simp;omega);have a2:=yc b off cs vs.toList (by simpa using hl);omega
theorem HZ{place:Nat->Option (Nat×Nat)}:∀(ps:List (Nat×Value))(qs:List (Nat×Nat))(vs:List AV)(zero cs:List AV)(zc:Array Value),jw zero qs vs=some cs->cU w G zero zc.toList->
  cU w G vs (ps.map (·.2))->(∀(i:Nat) p q,ps[i]?=some p->qs[i]?=some q->place p.1=some q)->
  ∃cells,Instr.fill place zc ps=some cells/\cU w G cs cells.toList/\∀b,cL b cs cells.toList<=cL b zero zc.toList+cL b vs (ps.map (·.2))
 |[],qs,vs,zero,cs,zc,h,hz,hv,hp=>by
  cases vs with
  |nil=>
   cases qs with
   |nil=>simp[jw]at h;subst h;exact⟨zc,rfl,hz,λb=>by omega⟩|cons q qs=>simp[jw]at h
  |cons v vs=>simp[cU]at hv
 |p::ps,qs,vs,zero,cs,zc,h,hz,hv,hp=>by
  cases vs with
  |nil=>simp[cU]at hv|cons v vs=>
   cases qs with
   |nil=>simp[jw]at h|cons q qs=>
    obtain⟨off,n⟩:=q;simp only[jw]at h;split at h;rename_i hc;simp only[aac,aK]at hc;obtain⟨hcl,aeN⟩:=hc;have GH:=hp 0 p (off,n) rfl rfl;have hrv:bF w G v p.2:=hv.2 0 v p.2 rfl rfl;obtain⟨GI,NT⟩:=hrv.cells;have dM:p.2.cells.size=n:=(by have:=GI.1;simp at this;omega);have Pt:zc.size=zero.length:=(by have:=hz.1;simp at this;omega);have NU:=LZ off p.2.cells.toList zc (by simp;omega);have CS:cU w G (au zero off v.cells) (au zc.toList off p.2.cells.toList):=hz.au GI (by omega);have CQ:cU w G vs (ps.map (·.2)):=⟨by have:=hv.1;simpa using this,λi c x h1 h2=>hv.2 (i+1) c x (by simpa using h1) (by simpa using h2)⟩;have step:Instr.fill place zc (p::ps)=Instr.fill place (p.2.cells.zipIdx.foldl (λcs (c,j)=>cs.setIfInBounds (off+j) c) zc) ps:=by
     obtain⟨pi,pv⟩:=p;simp only[Instr.fill];rw[GH];simp only;rw[U (by simp at dM ⊢;omega)]
    simp only[Array.toArray_toList]at NU;obtain⟨cells,e1,e2,e3⟩:=HZ ps qs vs (au zero off v.cells) cs _ h (by rw[NU];exact CS) CQ (λi p q h1 h2=>hp (i+1) p q (by simpa using h1) (by simpa using h2));refine⟨cells,step.trans e1,e2,λb=>?_⟩;have h3:=e3 b;rw[NU]at h3;have h4:=sj b zero v.cells zc.toList p.2.cells.toList off hz.1 GI.1 (by omega);have h5:=NT b;simp only[abn,cL];omega;cases h
theorem Cf{fs:Array Field}:∀{ps:List (Nat×Operand)}{qs:List (Nat×Nat)},se P fs ps qs=true->ps.length=qs.length/\
  ∀(i:Nat) p q,ps[i]?=some p->qs[i]?=some q->∃f,fs[p.1]?=some f/\f.offset=q.1/\di P f.type q.2=true
 |[],[],_=>⟨rfl,λi p q h _=>by simp at h⟩
 |(j,x)::ps,(off,n)::qs,h=>by
  simp only[se,aac]at h;obtain⟨h1,h2⟩:=h;obtain⟨e1,e2⟩:=Cf h2;refine⟨by simp[e1],λi p q hp hq=>?_⟩;cases i with
  |zero=>
   simp at hp hq;subst hp;subst hq;split at h1;rename_i f hf;simp only[aac,cz]at h1;exact⟨f,hf,h1.1,h1.2⟩;cases h1
  |succ i=>exact e2 i p q (by simpa using hp) (by simpa using hq)
 |[],_::_,h=>by simp[se]at h|_::_,[],h=>by simp[se]at h
theorem mG(h:o4 P t zero=true)(w:World)(G:bD) :
  ∃i z,P.info? t=some i/\i.zero=some z/\cU w G zero z.cells.toList/\(∀c∈zero,c.cS=true/\c.aB=true)/\AV.bw zero=true:=by
 unfold o4 at h;split at h;rename_i i hi;split at h;rename_i z hz;simp only[aac]at h;obtain⟨e1,e2,e3⟩:=Aa w G h.1;exact⟨i,z,hi,hz,⟨e1,e2⟩,e3,h.2⟩;cases h;cases h
theorem V5{parts:Array (Nat×Operand)}(ho:o.op=.build t parts)(hu:P.underlying t=some (.struct fs)){is:List TypeInfo}(F0:fs.toList.mapM (λf=>P.info? f.type)=some is)
  {qs:List (Nat×Nat)}(hz:o4 P t zero=true)(hp:se P fs parts.toList qs=true)(hc:jw zero qs vs=some cs)
  (hv:cU w G vs (parts.toList.map λp=>ρ p.2)):∃u,(execOp ρ o).run P w=.ok (.value u) w/\bF w G (.agg cs) u/\∀b,gT b (.agg cs) u<=cL b vs (parts.toList.map λp=>ρ p.2):=by
 obtain⟨i,z,hi,RC,oL,JM,_⟩:=mG hz w G;obtain⟨GH,hpp⟩:=Cf hp;have V6:fs.toList.mapM (λf=>(P.info? f.type).map λi=>(f.offset,i.size))=some (List.zipWith (λf i=>(f.offset,i.size)) fs.toList is)/\fs.toList.length=is.length/\∀(k:Nat) f j,fs.toList[k]?=some f->is[k]?=some j->P.info? f.type=some j:=by
  generalize fs.toList=l at F0;induction l generalizing is with
  |nil=>simp at F0;subst F0;exact⟨rfl,rfl,λk f j h _=>by simp at h⟩|cons f l ih=>
   rw[ahm]at F0;simp only[bind,Option.bind_eq_some_iff,pure,bh]at F0;obtain⟨j,hj,is',aja,rfl⟩:=F0;obtain⟨a1,a2,a3⟩:=ih aja;refine⟨?_,by simp[a2],λk g j' h1 h2=>?_⟩;rw[ahm,a1];simp[hj];cases k with
   |zero=>simp at h1 h2;subst h1;subst h2;exact hj|succ k=>simp at h1 h2;exact a3 k g j' h1 h2
 obtain⟨hm,hlen,ajb⟩:=V6;have H6:(parts.map λ(x:Nat×Operand)=>(x.1,ρ x.2)).toList.map (·.2)=parts.toList.map λp=>ρ p.2:=by simp[Function.comp_def]
 obtain⟨cells,e1,e2,e3⟩:=HZ (place:=((List.zipWith (λ(f:Field) (i:TypeInfo)=>(f.offset,i.size)) fs.toList is).toArray[·]?)) (parts.map λ(x:Nat×Operand)=>(x.1,ρ x.2)).toList qs vs zero cs z.cells hc oL
  (by rw[H6];exact hv) (by
   intro k p q h1 h2;simp only[ahw,aei,acs]at h1;obtain⟨p',h1,rfl⟩:=h1;obtain⟨f,g1,g2,g3⟩:=hpp k p' q h1 h2;obtain⟨j,g4,g5,_⟩:=me g3;have hf:fs.toList[p'.1]?=some f:=(by simpa using g1);have hj:is[p'.1]?=some j:=by
    have bC:p'.1<is.length:=(by rw[<-hlen];exact(aad.1 hf).1);have:=ajb p'.1 f is[p'.1] hf (aag bC);rw[g4]at this;cases this;exact aag bC
   simp[List.getElem?_zipWith,hf,hj,g2,g5])
 have hb:P.built t (parts.map λ(x:Nat×Operand)=>(x.1,ρ x.2)).toList=some cells:=by
  unfold Program.built;rw[hi,hu];simp only[RC,hm];exact e1
 refine⟨.agg cells,?_,.agg _ _ (by simpa using e2.1) λi c v h1 h2=>e2.2 i c v h1 (by simpa using h2),λb=>?_⟩;simp only[execOp,ho,cg];have:=run_build w t (parts.map λ(x:Nat×Operand)=>(x.1,ρ x.2)) cells hb;simp only[this,cZ,Sem.run_pure];have h1:=e3 b;have h2:cL b zero z.cells.toList=0:=eS b _ _ ((dm zero).2 λc hc=>(JM c hc).1);rw[H6]at h1;simp only[gT];omega
end Ax
namespace Ax
open Go
variable {P:Program}{w:World}{G:bD}{β:List nD}{ρ:Operand->Value}{o:Oper}
theorem mj(b off n:Nat):(⟨b,off,none⟩:Addr).add n=⟨b,off+n,none⟩:=by
 unfold Addr.add;split<;>simp_all
variable{t:TypeId}{fs:Array Field}{fd:Field}{i:TypeInfo}{x:Operand}{a:Addr}{v:Value}{off sz n:Nat}{cs:List AV}{agg:Bool}{xs:List Value}
theorem JN{f:Nat}(hu:P.underlying t=some (.struct fs))(hf:fs[f]?=some fd)(hi:P.info? fd.type=some i)(hs:i.size≠0)(a:Addr)(w:World) :
  (Instr.fieldAt t (.pointer (some a)) f).run P w=.ok (.pointer (some (a.add fd.offset))) w:=by
 have hc:P.cellsOf fd.type≠0:=by simp[Program.cellsOf,hi,hs]
 simp[Instr.fieldAt,cj hu,hf,Instr.sureAddr,fieldPlace,run_sizeOf w hi,hc]
theorem w6{f:Nat}(ho:o.op=.fieldAddr t x f)(hu:P.underlying t=some (.struct fs))(hf:fs[f]?=some fd)(hi:P.info? fd.type=some i)(hs:i.size≠0)
  (hx:ρ x=.pointer (some a)):(execOp ρ o).run P w=.ok (.value (.pointer (some (a.add fd.offset)))) w:=by
 simp only[execOp,ho,hx,cg,JN hu hf hi hs,cZ,Sem.run_pure]
theorem yX{p:AV}{q:AV}(h:bF w G p v)
  (hq:(∃id cQ i k,p=.ptr id cQ i k/\q=.ptr id cQ i (k+off))\/(∃sz rows i k,p=.qP sz rows i k/\q=.qP sz rows i (k+off))) :
  ∃a,v=.pointer (some a)/\bF w G q (.pointer (some (a.add off))):=by
 rcases hq with⟨id,cQ,i,k,rfl,rfl⟩|⟨sz,rows,i,k,rfl,rfl⟩;cases h with
 |ptr _ _ _ _ _ loc hp hl hv he=>
  obtain⟨a,rfl⟩:=hp;refine⟨a,rfl,.ptr _ _ _ _ _ loc ⟨_,rfl⟩ hl hv λe=>?_⟩;obtain⟨a',h1,h2⟩:=he e;cases h2;exact⟨a',h1,by rw[mj];congr 3;omega⟩
 cases h with
 |qP _ _ _ _ a cap hs=>
  refine⟨_,rfl,?_⟩;rw[mj];have:=bF.qP (w:=w) (G:=G) sz rows i (k+off) a cap hs;rw[show a.off+(i*sz+k)+off=a.off+(i*sz+(k+off)) by omega];exact this
theorem Cg{e:TypeId}(hu:P.underlying t=some (.slice e))(dM:di P e sz=true){len cap:Nat}{i:Int}(h0:0<=i)(h1:i<len)(w:World) :
  (Instr.indexAt t (.slice (some a) len cap) (.int .i64 i)).run P w=.ok (.pointer (some (a.add (i.toNat*sz)))) w:=by
 simp[Instr.indexAt,cj hu,asIntOf,fF dM,h0,h1]
theorem JO{e:TypeId}{y:Operand}(ho:o.op=.indexAddr t x y)(hu:P.underlying t=some (.slice e))(dM:di P e sz=true){st:ay}(hI:j8 w G st){a:AV}{i:Int}{bx gX:bG}{st':ay}{r:fL}
  (h:bn 0 0 (.indexAddr sz) [.val a,.val (.int .i64 i)] st bx=some (r,st',gX))(ha:bF w G a (ρ x))(hy:ρ y=.int .i64 i) :
  st'=st/\gX=bx/\∃p u,r=.val p/\(execOp ρ o).run P w=.ok (.value u) w/\bF w G p u/\p.cS=true:=by
 have pure:∀(s:Nat) (rows:List (List AV)) (v:Value),bF w G (.eE s rows) v->ρ x=v->s=sz->0<=i->i<rows.length->
   ∃u,(execOp ρ o).run P w=.ok (.value u) w/\bF w G (.qP sz rows i.toNat 0) u:=by
  intro s rows v hv JL hs h0 h1;subst hs;have FZ:=hv;cases hv with
  |eE _ _ a cap lI gY=>
   refine⟨_,?_,.qP _ rows i.toNat 0 a cap FZ⟩;simp only[execOp,ho,JL,hy,cg,Cg hu dM h0 (by exact_mod_cast h1),cZ,Sem.run_pure];obtain⟨b,off,spot⟩:=a;simp only at lI;subst lI;rw[mj];simp
 simp only[bn]at h;split at h<;>try (cases h;done)
 rename_i s rows;split at h;rename_i hc;cases h;simp only[aac,aK]at hc;obtain⟨u,h1,h2⟩:=pure s rows _ ha rfl hc.1.1 hc.1.2 hc.2;exact⟨rfl,rfl,_,u,rfl,h1,h2,rfl⟩;cases h;rename_i s rows;split at h;rename_i hc;cases h;simp only[aac,aK]at hc;obtain⟨u,h1,h2⟩:=pure s rows _ ha.ai rfl hc.1.1 hc.1.2 hc.2;exact⟨rfl,rfl,_,u,rfl,h1,h2,rfl⟩;cases h;rename_i id cQ;split at h;rename_i v s rows ja;split at h;rename_i hc;cases h;simp only[aac,aK]at hc;obtain⟨⟨⟨H7,hs⟩,h0⟩,h1⟩:=hc;subst H7;subst hs;obtain⟨loc,hl,JK⟩:=hI.loc ja;obtain⟨Ch,Bo,jb⟩:=JK;generalize JL:ρ x=xv at ha;cases ha with
 |mu _ _ _ loc' hp qZ hv he=>
  rw[hl]at qZ;cases qZ;have hx:=he Bo.symm;rcases jb.qD with⟨_,qh,_⟩|⟨b,off,c,e',uJ,gY,gw,hle,hlen,jl,eY⟩;subst qh;simp at h1;omega;rw[uJ,jb.len]at hx;refine⟨rfl,rfl,_,_,rfl,?_,.ptr id v i.toNat 0 _ loc ⟨_,rfl⟩ hl (by omega) λ_=>⟨_,uJ,rfl⟩,rfl⟩;simp only[execOp,ho,JL,hx,hy,cg,Cg hu dM h0 h1,cZ,Sem.run_pure];rw[mj,jb.size];simp
 cases h;cases h
theorem V8{y:Operand}(ho:o.op=.index t x y)(hu:P.underlying t=some .string){s:List UInt8}{i:Int}{b:UInt8}(h0:0<=i)(hb:s[i.toNat]?=some b)(ha:bF w G (.str s) (ρ x))(hy:ρ y=.int .i64 i) :
  (execOp ρ o).run P w=.ok (.value (.int .u8 b.toNat)) w:=by
 obtain⟨s',hx,rfl⟩:=ha.nv;have nV:s'[i.toNat]?=some b:=by
  have bC:i.toNat<s'.size:=by have:=(aad.1 hb).1;simpa using this
  have hd:s'.data[i.toNat]?=some b:=by simpa using hb
  have e:s'[i.toNat]?=s'.data[i.toNat]?:=rfl;rw[e];exact hd
 simp only[execOp,ho,hx,hy,cg];simp[Instr.index,cj hu,asIntOf,h0,nV]
theorem JP{st:ay}(hI:j8 w G st){p:AV}(hr:iT st p n=some cs)(hp:bF w G p v) :
  ∃b off xs,v=.pointer (some ⟨b,off,none⟩)/\xs.length=n/\cU w G cs xs/\∀(j:Nat) x,xs[j]?=some x->w.cell? ⟨b,off+j,none⟩=some x:=by
 have build:∀(r:List AV) (k b off:Nat),cut r k n=some cs->(∀(j:Nat) c,r[j]?=some c->∃x,w.cell? ⟨b,off+j,none⟩=some x/\bF w G c x)->
   ∃xs:List Value,xs.length=n/\cU w G cs xs/\∀(j:Nat) x,xs[j]?=some x->w.cell? ⟨b,off+k+j,none⟩=some x:=by
  intro r k b off hc oX;obtain⟨rfl,hle,hlen⟩:=sq hc;refine⟨(List.range n).map λj=>(w.cell? ⟨b,off+k+j,none⟩).getD undef,by simp,⟨by simp;omega,λj c x h1 h2=>?_⟩,λj x h=>?_⟩;rw[acv]at h1;split at h1;rw[adw]at h1;obtain⟨y,e1,e2⟩:=oX _ c h1;simp only[aei,acs]at h2;obtain⟨j',h3,rfl⟩:=h2;have:j'=j:=by
   rw[afb (by assumption)]at h3;simpa using h3.symm
  subst this;rw[show off+k+j'=off+(k+j') by omega,e1];exact e2;cases h1;simp only[aei,acs]at h;obtain⟨j',h3,rfl⟩:=h;have hj:j<n:=by
   have:=(aad.1 h3).1;simpa using this
  have:j'=j:=by
   rw[afb hj]at h3;simpa using h3.symm
  subst this;have bC:k+j'<r.length:=by omega
  obtain⟨y,e1,e2⟩:=oX (k+j') r[k+j'] (aag bC);rw[show off+k+j'=off+(k+j') by omega,e1]
  rfl
 unfold iT at hr;split at hr;rename_i id cQ i k;split at hr;rename_i ve sz rows ja;split at hr;rename_i H7;subst H7;split at hr;rename_i r dJ;obtain⟨loc,hl,Ch,Bo,jb⟩:=hI.loc ja;cases hp with
 |ptr _ _ _ _ _ loc' hpp qZ hv he=>
  rw[hl]at qZ;cases qZ;obtain⟨a,uJ,rfl⟩:=he Bo.symm;rcases jb.qD with⟨_,qh,_⟩|⟨b,off,c,e',L2,gY,gw,hle,hlen,jl,eY⟩;subst qh;simp at dJ;rw[L2]at uJ;cases uJ;obtain⟨xs,h1,h2,h3⟩:=build r k b (off+i*sz) hr (λj c hc=>by
   obtain⟨x,e1,e2⟩:=jb.cell eY i r j c dJ hc;exact⟨x,by rw[show off+i*sz+j=off+(i*sz+j) by omega];exact e1,e2⟩)
  refine⟨b,off+(i*sz+k),xs,by rw[jb.size],h1,h2,λj x hx=>?_⟩;rw[show off+(i*sz+k)+j=off+i*sz+k+j by omega];exact h3 j x hx
 cases hr;cases hr;cases hr;rename_i sz rows i k;split at hr;rename_i r dJ;cases hp with
 |qP _ _ _ _ a cap hs=>
  cases hs with
  |eE _ _ _ _ lI gY dL iI qf x7 hc wT=>
   obtain⟨xs,h1,h2,h3⟩:=build r k a.block (a.off+i*sz) hr (λj c Jv=>by
    obtain⟨_,x,e1⟩:=hc i r j c dJ Jv;exact⟨x,by rw[show a.off+i*sz+j=a.off+(i*sz+j) by omega];exact e1,wT i r j c x dJ Jv e1⟩)
   refine⟨a.block,a.off+(i*sz+k),xs,rfl,h1,h2,λj x hx=>?_⟩;rw[show a.off+(i*sz+k)+j=a.off+i*sz+k+j by omega];exact h3 j x hx
 cases hr;cases hr
theorem DX(hn:di P t n=true)(ug:nY P t=some agg){b:Nat}(hlen:xs.length=n)(lU:agg=false->n=1)
  (hc:∀(j:Nat) x,xs[j]?=some x->w.cell? ⟨b,off+j,none⟩=some x) :
  (Instr.loadAt t (.pointer (some ⟨b,off,none⟩))).run P w=.ok (if agg then .agg xs.toArray else xs.headD undef) w:=by
 cases agg with
 |true=>
  have:=run_loadCells_list (P:=P) w ⟨b,off,none⟩ xs (λj v h=>by rw[mj];exact hc j v h);rw[hlen]at this;simp[Instr.loadAt,Instr.sureAddr,loadVar,zo ug,fF hn,this]
 |false=>
  match xs,hlen,lU rfl with
  |[x],_,_=>
   have:=hc 0 x rfl;simp only[Nat.add_zero]at this;simp[Instr.loadAt,Instr.sureAddr,loadVar,zo ug,this]
  |[],h,h1=>simp at h;omega|_::_::_,h,h1=>simp at h;omega
theorem cU.ai{as:List AV}{xs:List Value}(h:cU w G as xs):cU w G (AV.cW as) xs:=by
 refine⟨by rw[nX];exact h.1,λi c v hc hv=>?_⟩;rw[x8]at hc;simp only[acs]at hc;obtain⟨c',h1,rfl⟩:=hc;exact(h.2 i c' v h1 hv).ai
theorem H8(ho:o.op=.load t x)(hn:di P t n=true)(ug:nY P t=some agg)(lU:agg=false->n=1){b:Nat}{v:AV}
  (hx:ρ x=.pointer (some ⟨b,off,none⟩))(hlen:xs.length=n)(hC:cU w G cs xs)(hc:∀(j:Nat) y,xs[j]?=some y->w.cell? ⟨b,off+j,none⟩=some y)(hv:cm agg cs=some v) :
  ∃u,(execOp ρ o).run P w=.ok (.value u) w/\bF w G v u/\∀d,gT d v u=cL d cs xs:=by
 obtain⟨u,hu,h1,h2,_⟩:=De hv hC;refine⟨u,?_,h1,h2⟩;simp only[execOp,ho,hx,cg,DX hn ug hlen lU hc,cZ,Sem.run_pure,hu]
theorem L3{f:FuncId}{first l7:Array Operand}(hf:f<100000)(ho:o.op=.makeFunc (.func f) first l7){vs:List AV}(hv:cU w G vs ((first.toList++l7.toList).map ρ)) :
  (execOp ρ o).run P w=.ok (.value (.func (.func f) (first.map ρ) (l7.map ρ))) w/\
   bF w G (.fn f (AV.cW (vs.take first.size)) (AV.cW (vs.drop first.size))) (.func (.func f) (first.map ρ) (l7.map ρ)):=by
 refine⟨by simp only[execOp,ho,cg];rfl,?_⟩;have h1:=(hv.take first.size).ai;have h2:=(hv.drop first.size).ai;rw[List.map_append]at h1 h2;rw[aiN (by simp)]at h1;rw[List.drop_left' (by simp)]at h2;refine .fn f _ _ _ _ (by simpa using h1.1) (by simpa using h2.1) ⟨iD _,iD _,hf⟩ (λi c v e1 e2=>h1.2 i c v e1 ?_) (λi c v e1 e2=>h2.2 i c v e1 ?_);simpa using e2;simpa using e2
end Ax
namespace Ax
open Go
variable {P:Program}{w:World}{G:bD}{β:List nD}{ρ:Operand->Value}{o:Oper}
def zp(ρ:Operand->Value)(x:Option Operand)(aah a:Int):Prop:=(x=none/\a=aah)\/∃y,x=some y/\ρ y=.int .i64 a
theorem nZ{i:Int}{y:Nat}{c:BoundsCode}(h0:0<=i)(h1:i<=y)(w:World):(Instr.sliceBound (.int .i64 i) y c).run P w=.ok i.toNat w:=by
 simp[Instr.sliceBound,asIntOf,h0,h1]
variable{lo hi:Option Operand}{t e:TypeId}{x:Operand}{sz:Nat}{rows:List (List AV)}{r:Option AV}{kk:SK}{es:List (AV×AV)}{fs:List MapEntry}
theorem lu{wV:Bool}{len cap:Nat}{a b:Int}(ha:zp ρ lo 0 a)(hb:zp ρ hi len b)(h0:0<=a)(h1:a<=b)(h2:b<=cap)(w:World) :
  (Instr.sliceBounds wV len cap (lo.map ρ) (hi.map ρ) none).run P w=.ok (a.toNat,b.toNat,cap) w:=by
 rcases ha with⟨rfl,rfl⟩|⟨y,rfl,hy⟩<;>rcases hb with⟨rfl,rfl⟩|⟨z,rfl,hz⟩
 simp[Instr.sliceBounds];simp[Instr.sliceBounds,hz,nZ (by omega:(0:Int)<=b) h2];simp[Instr.sliceBounds,hy,nZ h0 h1];have hbn:((b.toNat:Nat):Int)=b:=by omega
 simp[Instr.sliceBounds,hy,hz,nZ (by omega:(0:Int)<=b) h2,nZ h0 (by rw[hbn];exact h1)]
theorem L4(ho:o.op=.slice t x lo hi none)(hu:P.underlying t=some .string){s:List UInt8}{a b:Int}(hx:bF w G (.str s) (ρ x))
  (ha:zp ρ lo 0 a)(hb:zp ρ hi s.length b)(h0:0<=a)(h1:a<=b)(h2:b<=s.length) :
  ∃u,(execOp ρ o).run P w=.ok (.value u) w/\bF w G (.str ((s.take b.toNat).drop a.toNat)) u:=by
 obtain⟨s',Ze,rfl⟩:=hx.nv;have hl:s'.data.toList.length=s'.size:=by simp
 rw[hl]at hb h2;refine⟨.string (s'.extract a.toNat b.toNat),?_,.str _ _ ?_⟩;simp only[execOp,ho,Ze,cg];simp[Instr.sliceAt,Instr.slice,cj hu,lu ha hb h0 h1 h2];rw[ByteArray.data_extract,agn];simp only[List.extract];rw[List.drop_take]
theorem Pu(h:cn sz rows=true)(n m:Nat):cn sz ((rows.take n).drop m)=true:=by
 simp only[cn,aaB]at h ⊢;exact λr hr=>h r (adz (adA hr))
theorem NV{n m i:Nat}{r:List AV}(h:((rows.take n).drop m)[i]?=some r):rows[m+i]?=some r:=by
 rw[adw,acv]at h;split at h;exact h;cases h
theorem V9{a:Addr}{len cap:Nat}(h:bF w G (.eE sz rows) (.slice (some a) len cap)){lo hi:Nat}(h1:lo<=hi)(h2:hi<=rows.length) :
  len=rows.length/\rows.length<=cap/\bF w G (.eE sz ((rows.take hi).drop lo)) (.slice (if cap=lo then some a else some (a.add (lo*sz))) (hi-lo) (cap-lo)):=by
 cases h with
 |eE _ _ _ _ lI gY dL iI qf x7 hc hr=>
  refine⟨rfl,gY,?_⟩;have hlen:((rows.take hi).drop lo).length=hi-lo:=by simp;omega
  have Bv:∀r∈(rows.take hi).drop lo,r∈rows:=λr hr=>adz (adA hr);have Pv:a.add (lo*sz)=⟨a.block,a.off+lo*sz,none⟩:=by
   obtain⟨b,off,spot⟩:=a;simp only at lI;subst lI;exact mj _ _ _
  split;rename_i hcl;have:(rows.take hi).drop lo=[]:=by apply aaK;omega
  rw[this];have h0:hi-lo=([]:List (List AV)).length:=by simp;omega
  rw[h0];exact .eE _ _ a _ lI (by simp) (by simp[cn]) (by simp) (by simp) (by simp) (λi r j c h _=>by simp at h) (λi r j c v h _=>by simp at h);rw[<-hlen];refine .eE _ _ _ _ (by rw[Pv]) (by omega) (Pu dL _ _) (λr h=>iI r (Bv r h)) (λr h=>qf r (Bv r h)) (λr h=>x7 r (Bv r h)) (λi r j c e1 e2=>?_) (λi r j c v e1 e2 e3=>?_);have:=hc _ r j c (NV e1) e2;rw[Pv];simp only;rw[show a.off+lo*sz+(i*sz+j)=a.off+((lo+i)*sz+j) by rw[ae7];omega];exact this;rw[Pv]at e3;simp only at e3;rw[show a.off+lo*sz+(i*sz+j)=a.off+((lo+i)*sz+j) by rw[ae7];omega]at e3;exact hr _ r j c v (NV e1) e2 e3
theorem DY(ho:o.op=.slice t x lo hi none)(hu:P.underlying t=some (.slice e))(dM:di P e sz=true){a b:Int}(hx:bF w G (.eE sz rows) (ρ x))
  (ha:zp ρ lo 0 a)(hb:zp ρ hi rows.length b)(h0:0<=a)(h1:a<=b)(h2:b<=rows.length) :
  ∃u,(execOp ρ o).run P w=.ok (.value u) w/\bF w G (.eE sz ((rows.take b.toNat).drop a.toNat)) u:=by
 have hx0:=hx;generalize JL:ρ x=xv at hx;have hs:∃ad len cap,xv=.slice (some ad) len cap:=by cases hx;exact⟨_,_,_,rfl⟩
 obtain⟨ad,len,cap,rfl⟩:=hs;obtain⟨e1,e2,e3⟩:=V9 hx (lo:=a.toNat) (hi:=b.toNat) (by omega) (by omega);subst e1;refine⟨_,?_,e3⟩;simp only[execOp,ho,JL,cg];simp only[Instr.sliceAt,cg,cj hu,cZ,Instr.slice,agu,lu ha hb h0 h1 (by omega:b<=(cap:Int)),fF dM,Sem.run_pure];by_cases hc:cap=a.toNat<;>simp[hc]
theorem DZ{mx:Option Operand}(ho:o.op=.slice t x lo hi mx)(hu:P.underlying t=some (.slice e))(dM:di P e sz=true)(hx:bF w G .af (ρ x))
  (ha:zp ρ lo 0 0)(hb:zp ρ hi 0 0)(hm:mx=none\/∃z,mx=some z/\hi.isSome=true/\ρ z=.int .i64 0) :
  (execOp ρ o).run P w=.ok (.value (.slice none 0 0)) w:=by
 generalize JL:ρ x=xv at hx;cases hx;simp only[execOp,ho,JL,cg];rcases hm with rfl|⟨z,rfl,hh,hz⟩;have nV:zp ρ hi ((0:Nat):Int) 0:=hb;simp only[Instr.sliceAt,cg,cj hu,cZ,Instr.slice,agu,lu (len:=0) (cap:=0) ha nV (by omega) (by omega) (by simp),fF dM,Sem.run_pure];simp;have key:(Instr.sliceBounds true 0 0 (lo.map ρ) (hi.map ρ) (some (ρ z))).run P w=.ok (0,0,0) w:=by
  rcases ha with⟨rfl,_⟩|⟨y,rfl,hy⟩<;>rcases hb with⟨rfl,_⟩|⟨y',rfl,Zf⟩
  simp at hh;simp[Instr.sliceBounds,hz,Zf,Instr.sliceBound,asIntOf];simp at hh;simp[Instr.sliceBounds,hz,hy,Zf,Instr.sliceBound,asIntOf]
 simp only[Instr.sliceAt,cg,cj hu,cZ,Instr.slice,aef,key,fF dM,Sem.run_pure];simp
theorem Ci{mx:Option Operand}(ho:o.op=.slice t x lo hi mx)(hu:P.underlying t=some (.slice e))(dM:di P e sz=true)(hx:bF w G .mE (ρ x))
  (ha:zp ρ lo 0 0)(hb:zp ρ hi 0 0)(hm:mx=none\/∃z,mx=some z/\hi.isSome=true/\ρ z=.int .i64 0) :
  ∃u,(execOp ρ o).run P w=.ok (.value u) w/\bF w G .mE u:=by
 generalize JL:ρ x=xv at hx;obtain⟨ad,rfl⟩:∃ad,xv=.slice (some ad) 0 0:=by cases hx;exact⟨_,rfl⟩
 refine⟨_,?_,.mE ad⟩;simp only[execOp,ho,JL,cg];rcases hm with rfl|⟨z,rfl,hh,hz⟩;have nV:zp ρ hi ((0:Nat):Int) 0:=hb;simp only[Instr.sliceAt,cg,cj hu,cZ,Instr.slice,agu,lu (len:=0) (cap:=0) ha nV (by omega) (by omega) (by simp),fF dM,Sem.run_pure];simp;have key:(Instr.sliceBounds true 0 0 (lo.map ρ) (hi.map ρ) (some (ρ z))).run P w=.ok (0,0,0) w:=by
  rcases ha with⟨rfl,_⟩|⟨y,rfl,hy⟩<;>rcases hb with⟨rfl,_⟩|⟨y',rfl,Zf⟩
  simp at hh;simp[Instr.sliceBounds,hz,Zf,Instr.sliceBound,asIntOf];simp at hh;simp[Instr.sliceBounds,hz,hy,Zf,Instr.sliceBound,asIntOf]
 simp only[Instr.sliceAt,cg,cj hu,cZ,Instr.slice,aef,key,fF dM,Sem.run_pure];simp
theorem D0{z:Operand}(ho:o.op=.slice t x lo hi (some z))(hu:P.underlying t=some (.slice e)){s:Nat}(dM:di P e sz=true)(hx:bF w G (.eE s rows) (ρ x))
  (ha:zp ρ lo 0 0)(hb:zp ρ hi rows.length 0)(hh:hi.isSome=true)(hz:ρ z=.int .i64 0) :
  ∃u,(execOp ρ o).run P w=.ok (.value u) w/\bF w G .mE u:=by
 generalize JL:ρ x=xv at hx;have hs:∃ad len cap,xv=.slice (some ad) len cap:=by cases hx;exact⟨_,_,_,rfl⟩
 obtain⟨ad,len,cap,rfl⟩:=hs;refine⟨_,?_,.mE ad⟩;have key:(Instr.sliceBounds true len cap (lo.map ρ) (hi.map ρ) (some (ρ z))).run P w=.ok (0,0,0) w:=by
  rcases ha with⟨rfl,_⟩|⟨y,rfl,hy⟩<;>rcases hb with⟨rfl,_⟩|⟨y',rfl,Zf⟩
  simp at hh;simp[Instr.sliceBounds,hz,Zf,Instr.sliceBound,asIntOf];simp at hh;simp[Instr.sliceBounds,hz,hy,Zf,Instr.sliceBound,asIntOf]
 simp only[execOp,ho,JL,cg];simp only[Instr.sliceAt,cg,cj hu,cZ,Instr.slice,aef,key,fF dM,Sem.run_pure];simp
theorem run_checkKey(ht:qg P t kk=true)(b:Bool)(n:Nat)(v:Value)(w:World):(Instr.checkKey b (n+1) t v).run P w=.ok () w:=by
 unfold qg at ht;cases kk<;>simp only at ht<;>split at ht<;>(try cases ht);all_goals (rename_i hu;simp[Instr.checkKey,cj hu])
def zq(w:World)(G:bD)(es:List (AV×AV))(fs:List MapEntry):Prop:=
 fs.length=es.length/\∀(i:Nat) k v e,es[i]?=some (k,v)->fs[i]?=some e->bF w G k e.key/\bF w G v e.val/\v.cS=true/\k.cS=true
theorem zq.tail{x:AV×AV}{f:MapEntry}(h:zq w G (x::es) (f::fs)):zq w G es fs:=
 ⟨by have:=h.1;simpa using this,λi k v e h1 h2=>h.2 (i+1) k v e (by simpa using h1) (by simpa using h2)⟩
theorem vr{d:TypeDesc}(ht:qg P t kk=true)(hu:P.underlying t=some d){a b:AV}{x y:Value}{r:Bool}(h:FX kk a b=some r)(ha:bF w G a x)(hb:bF w G b y):Instr.sameNow d x y=some r:=by
 unfold FX at h;split at h;cases h;rw[ha.kA,hb.kA];simp only[qg,hu]at ht;split at ht;rename_i hd;cases hd;rfl;cases ht;split at h;rename_i k p l q hk;cases h;subst hk;rw[ha.iz,hb.iz];simp only[qg,hu]at ht;split at ht;rename_i hd;cases hd;simp[Instr.sameNow];cases ht;cases h;cases h;obtain⟨s,rfl,rfl⟩:=ha.nv;obtain⟨s',rfl,rfl⟩:=hb.nv;simp only[qg,hu]at ht;split at ht;rename_i hd;cases hd;simp only[Instr.sameNow,bh];rw[beq_toListBytes,ByteArray.toList_eq,ByteArray.toList_eq];cases ht;cases h
theorem vu{t:TypeId}{d:TypeDesc}{kk:SK}(ht:qg P t kk=true)(hu:P.underlying t=some d){k:AV}{x:Value}(hk:bF w G k x):∀(es:List (AV×AV))(fs:List MapEntry)(i:Nat)(r:Option AV),
  zq w G es fs->tA kk k es=some r->∃q,Instr.findNow d x fs i=some q/\
   (match r with
    |none=>q=none|some v=>∃j e,q=some (i+j,e.val)/\fs[j]?=some e/\bF w G v e.val/\v.cS=true)
 |[],[],i,r,_,h=>by simp[tA]at h;subst h;exact⟨none,rfl,rfl⟩|[],_::_,_,_,h,_=>by simp[zq]at h|_::_,[],_,_,h,_=>by simp[zq]at h|(a,v)::es,f::fs,i,r,hM,h=>by
  obtain⟨h1,h2,h3,_⟩:=hM.2 0 a v f rfl rfl;simp only[tA]at h;split at h;rename_i he;cases h;exact⟨some (i,f.val),by simp[Instr.findNow,vr ht hu he hk h1],0,f,rfl,rfl,h2,h3⟩;rename_i he;obtain⟨q,e1,e2⟩:=vu ht hu hk es fs (i+1) r hM.tail h;refine⟨q,by simp[Instr.findNow,vr ht hu he hk h1,e1],?_⟩;cases r with
  |none=>exact e2|some v'=>
   obtain⟨j,e,g1,g2,g3⟩:=e2;exact⟨j+1,e,by rw[g1,show i+1+j=i+(j+1) by omega],by simpa using g2,g3⟩
  cases h
theorem run_findKey(ht:qg P t kk=true){k:AV}{x:Value}(hk:bF w G k x)(hM:zq w G es fs)(hf:tA kk k es=some r)(w':World) :
  ∃q,(Instr.findKey t x fs).run P w'=.ok q w'/\
   (match r with
    |none=>q=none|some v=>∃j e,q=some (j,e.val)/\fs[j]?=some e/\bF w G v e.val/\v.cS=true):=by
 have hu:∃d,P.underlying t=some d:=by
  unfold qg at ht;cases kk<;>simp only at ht<;>split at ht<;>(try cases ht)<;>exact⟨_,by assumption⟩
 obtain⟨d,hu⟩:=hu;obtain⟨q,e1,e2⟩:=vu ht hu hk es fs 0 r hM hf;refine⟨q,by simp[Instr.findKey,cj hu,e1],?_⟩;cases r with
 |none=>exact e2|some v=>obtain⟨j,e,g1,g2⟩:=e2;exact⟨j,e,by simpa using g1,g2⟩
theorem RD{kt et:TypeId}{m k:Operand}{ok:Bool}(ho:o.op=.lookup t m k ok)(hu:P.underlying t=some (.map kt et))(ht:qg P kt kk=true){ie:TypeInfo}{z:Value}(hie:P.info? et=some ie)(hz:ie.zero=some z){zero:AV}(LH:ya z zero=true)
  {st:ay}(hI:j8 w G st){am ak:AV}(jj:(am=.hY/\es=[])\/∃id,am=.map id/\st[id]?=some (.map es))(hf:tA kk ak es=some r)(hm:bF w G am (ρ m))(hk:bF w G ak (ρ k)) :
  ∃u,(execOp ρ o).run P w=.ok (.value u) w/\bF w G (if ok then .fK [r.getD zero,.bool r.isSome] else r.getD zero) u/\(r.getD zero).cS=true:=by
 obtain⟨hz1,hz2,_⟩:=zm LH w G;have hzv:(zeroValue et).run P w=.ok z w:=by simp[zeroValue,typeInfo,hie,hz]
 have two:∀(v:AV) (x:Value) (b:Bool),bF w G v x->bF w G (if ok then .fK [v,.bool b] else v) (if ok=true then Value.tuple #[x,.bool b] else x):=by
  intro v x b hv;cases ok;exact hv;refine .fK _ _ rfl λi c y h1 h2=>?_;match i with
  |0=>simp at h1 h2;subst h1;subst h2;exact hv|1=>simp at h1 h2;subst h1;subst h2;exact .bool _|i+2=>simp at h1
 have nu:∀(fs:Array MapEntry),zq w G es fs.toList->∃x b,bF w G (r.getD zero) x/\b=r.isSome/\(r.getD zero).cS=true/\∃q,(Instr.findKey kt (ρ k) fs.toList).run P w=.ok q w/\((∃j,q=some (j,x)/\b=true)\/(q=none/\x=z/\b=false)):=by
  intro fs hM;obtain⟨q,e1,e2⟩:=run_findKey ht hk hM hf w;cases r with
  |none=>exact⟨z,false,hz1,rfl,hz2,q,e1,.inr ⟨e2,rfl,rfl⟩⟩|some v=>
   obtain⟨j,e,g1,g2,g3,g4⟩:=e2;exact⟨e.val,true,g3,rfl,g4,q,e1,.inl ⟨j,g1,rfl⟩⟩
 rcases jj with⟨rfl,rfl⟩|⟨id,rfl,ja⟩;generalize hmv:ρ m=mv at hm;cases hm;obtain⟨x,b,h1,rfl,h3,q,h4,h5⟩:=nu #[] ⟨rfl,λi k v e h _=>by simp at h⟩;refine⟨_,?_,two _ _ _ h1,h3⟩;have VD:=run_checkKey (w:=w) ht (#[]:Array MapEntry).isEmpty 9999 (ρ k);simp only[execOp,ho,hmv,cg];simp only[Instr.lookup,cg,cj hu,cZ,Sem.run_pure,VD,h4];rcases h5 with⟨j,rfl,hb⟩|⟨rfl,rfl,hb⟩;simp[hb];simp[hb,hzv];generalize hmv:ρ m=mv at hm;obtain⟨loc,hl,JK⟩:=hI.loc ja;cases hm with
 |map _ loc' bk qZ Ch nV=>
  rw[hl]at qZ;cases qZ;obtain⟨g1,g2,b0,wW,clock,g3,g4,g5,g6,g7⟩:=JK;rw[nV]at g3;cases g3;obtain⟨x,b,h1,rfl,h3,q,h4,h5⟩:=nu wW ⟨by simpa using g6,λi k v e e1 e2=>g7 i k v e e1 (by simpa using e2)⟩;refine⟨_,?_,two _ _ _ h1,h3⟩;have VD:=run_checkKey (w:=w) ht wW.isEmpty 9999 (ρ k);have Wa:(getObj bk).run P w=.ok (.map wW clock) w:=by simp[getObj,Sem.run,g4]
  simp only[execOp,ho,hmv,cg];simp only[Instr.lookup,cg,cj hu,cZ,Sem.run_pure,Wa,VD,h4];rcases h5 with⟨j,rfl,hb⟩|⟨rfl,rfl,hb⟩;simp[hb];simp[hb,hzv]
end Ax
namespace Ax
open Go
variable {P:Program}{w w':World}{G G':bD}{β:List nD}
def lY.jB(l:lY):Option Nat:=if l.cap=0 then none else l.a.map (·.block)
def g8(b:Nat):List (List AV)->List (List Value)->Nat
 |r::rs,x::xs=>cL b r x+g8 b rs xs|_,_=>0
def jm(b:Nat)(loc:lY):dA->Nat
 |.rows _ _ rows=>(if loc.jB=some b then 1 else 0)+g8 b rows loc.vals|.map _=>if loc.jB=some b then 1 else 0
def cR(b:Nat):List lY->List dA->Nat
 |l::ls,o::st=>jm b l o+cR b ls st|_,_=>0
def ir(b:Nat):List nD->List (List AV)->Nat
 |g::β,r::bx=>(if g.jB=some b then 1 else 0)+cL b r g.vals+ir b β bx|_,_=>0
theorem yd(b:Nat):∀(rs:List (List AV))(xs:List (List Value))(i:Nat) r x,rs[i]?=some r->xs[i]?=some x->cL b r x<=g8 b rs xs
 |[],_,_,_,_,h,_=>by simp at h|_::_,[],_,_,_,_,h=>by simp at h|r::rs,x::xs,0,r',x',h,k=>by simp at h k;subst h;subst k;simp only[g8];omega|r::rs,x::xs,i+1,r',x',h,k=>by
  have:=yd b rs xs i r' x' (by simpa using h) (by simpa using k);simp only[g8];omega
theorem uK(b:Nat):∀(rs:List (List AV))(xs:List (List Value))(i:Nat) r x r' x',rs[i]?=some r->xs[i]?=some x->
  g8 b (rs.set i r') (xs.set i x')+cL b r x=g8 b rs xs+cL b r' x'
 |[],_,_,_,_,_,_,h,_=>by simp at h|_::_,[],_,_,_,_,_,_,h=>by simp at h|r::rs,x::xs,0,r1,x1,r',x',h,k=>by simp at h k;subst h;subst k;simp only[aev,g8];omega|r::rs,x::xs,i+1,r1,x1,r',x',h,k=>by
  have:=uK b rs xs i r1 x1 r' x' (by simpa using h) (by simpa using k);simp only[afl,g8];omega
theorem Cj(b:Nat):∀(rs:List (List AV))(xs:List (List Value)),(∀r∈rs,AV.fq r=true)->g8 b rs xs=0
 |[],_,_=>by simp[g8]|_::_,[],_=>by simp[g8]|r::rs,x::xs,h=>by
  simp only[g8,eS b r x (h r (by simp)),Cj b rs xs λr' hr=>h r' (by simp[hr])]
theorem n6(b:Nat):∀(ls:List lY)(st:List dA)(i:Nat) l o,ls[i]?=some l->st[i]?=some o->jm b l o<=cR b ls st
 |[],_,_,_,_,h,_=>by simp at h|_::_,[],_,_,_,_,h=>by simp at h|l::ls,o::st,0,l',o',h,k=>by simp at h k;subst h;subst k;simp only[cR];omega|l::ls,o::st,i+1,l',o',h,k=>by
  have:=n6 b ls st i l' o' (by simpa using h) (by simpa using k);simp only[cR];omega
theorem JQ(b:Nat):∀(ls:List lY)(st:List dA)(i j:Nat) l o l' o',i≠j->ls[i]?=some l->st[i]?=some o->ls[j]?=some l'->st[j]?=some o'->jm b l o+jm b l' o'<=cR b ls st
 |[],_,_,_,_,_,_,_,_,h,_,_,_=>by simp at h|_::_,[],_,_,_,_,_,_,_,_,h,_,_=>by simp at h|l::ls,o::st,0,0,_,_,_,_,h,_,_,_,_=>aU rfl h|l::ls,o::st,0,j+1,l1,o1,l2,o2,_,h1,h2,h3,h4=>by
  simp at h1 h2;subst h1;subst h2;have:=n6 b ls st j l2 o2 (by simpa using h3) (by simpa using h4);simp only[cR];omega
 |l::ls,o::st,i+1,0,l1,o1,l2,o2,_,h1,h2,h3,h4=>by
  simp at h3 h4;subst h3;subst h4;have:=n6 b ls st i l1 o1 (by simpa using h1) (by simpa using h2);simp only[cR];omega
 |l::ls,o::st,i+1,j+1,l1,o1,l2,o2,h,h1,h2,h3,h4=>by
  have:=JQ b ls st i j l1 o1 l2 o2 (by omega) (by simpa using h1) (by simpa using h2) (by simpa using h3) (by simpa using h4);simp only[cR];omega
theorem w7(b:Nat):∀(ls:List lY)(st:List dA)(i:Nat) l o l' o',ls[i]?=some l->st[i]?=some o->
  cR b (ls.set i l') (st.set i o')+jm b l o=cR b ls st+jm b l' o'
 |[],_,_,_,_,_,_,h,_=>by simp at h|_::_,[],_,_,_,_,_,_,h=>by simp at h|l::ls,o::st,0,l1,o1,l2,o2,h,k=>by simp at h k;subst h;subst k;simp only[aev,cR];omega|l::ls,o::st,i+1,l1,o1,l2,o2,h,k=>by
  have:=w7 b ls st i l1 o1 l2 o2 (by simpa using h) (by simpa using k);simp only[afl,cR];omega
theorem tH(b:Nat):∀(ls ls':List lY)(st st':List dA),ls.length=st.length->cR b (ls++ls') (st++st')=cR b ls st+cR b ls' st'
 |[],_,[],_,_=>by simp[cR]|[],_,_::_,_,h=>by simp at h|_::_,_,[],_,h=>by simp at h|l::ls,ls',o::st,st',h=>by
  simp only[acA,cR];rw[tH b ls ls' st st' (by simpa using h)];omega
theorem n7(b:Nat):∀(β:List nD)(bx:List (List AV))(i:Nat) g r,β[i]?=some g->bx[i]?=some r->(if g.jB=some b then 1 else 0)+cL b r g.vals<=ir b β bx
 |[],_,_,_,_,h,_=>by simp at h|_::_,[],_,_,_,_,h=>by simp at h|g::β,r::bx,0,g',r',h,k=>by simp at h k;subst h;subst k;simp only[ir];omega|g::β,r::bx,i+1,g',r',h,k=>by
  have:=n7 b β bx i g' r' (by simpa using h) (by simpa using k);simp only[ir];omega
theorem Ad(b:Nat):∀(β:List nD)(bx:List (List AV))(i:Nat) g r g' r',β[i]?=some g->bx[i]?=some r->
  ir b (β.set i g') (bx.set i r')+((if g.jB=some b then 1 else 0)+cL b r g.vals)=ir b β bx+((if g'.jB=some b then 1 else 0)+cL b r' g'.vals)
 |[],_,_,_,_,_,_,h,_=>by simp at h|_::_,[],_,_,_,_,_,_,h=>by simp at h|g::β,r::bx,0,g1,r1,g2,r2,h,k=>by simp at h k;subst h;subst k;simp only[aev,ir];omega|g::β,r::bx,i+1,g1,r1,g2,r2,h,k=>by
  have:=Ad b β bx i g1 r1 g2 r2 (by simpa using h) (by simpa using k);simp only[afl,ir];omega
theorem JR(b:Nat):∀(β:List nD)(bx:List (List AV))(i j:Nat) g r g' r',i≠j->β[i]?=some g->bx[i]?=some r->β[j]?=some g'->bx[j]?=some r'->
  ((if g.jB=some b then 1 else 0)+cL b r g.vals)+((if g'.jB=some b then 1 else 0)+cL b r' g'.vals)<=ir b β bx
 |[],_,_,_,_,_,_,_,_,h,_,_,_=>by simp at h|_::_,[],_,_,_,_,_,_,_,_,h,_,_=>by simp at h|l::ls,o::st,0,0,_,_,_,_,h,_,_,_,_=>aU rfl h|l::ls,o::st,0,j+1,l1,o1,l2,o2,_,h1,h2,h3,h4=>by
  simp at h1 h2;subst h1;subst h2;have:=n7 b ls st j l2 o2 (by simpa using h3) (by simpa using h4);simp only[ir];omega
 |l::ls,o::st,i+1,0,l1,o1,l2,o2,_,h1,h2,h3,h4=>by
  simp at h3 h4;subst h3;subst h4;have:=n7 b ls st i l1 o1 (by simpa using h1) (by simpa using h2);simp only[ir];omega
 |l::ls,o::st,i+1,j+1,l1,o1,l2,o2,h,h1,h2,h3,h4=>by
  have:=JR b ls st i j l1 o1 l2 o2 (by omega) (by simpa using h1) (by simpa using h2) (by simpa using h3) (by simpa using h4);simp only[ir];omega
structure Ae (w:World)(G:bD)(aF:List AV)(g:nD):Prop where
 vm:cU w G aF g.vals
 Dd:AV.bw aF=true
 qD:(g.jB=none/\aF=[])\/∃b c e,g.jB=some b/\w.heap[b]?=some (.cells c e (0,0))/\aF.length<=c.size/\G.mR b=some 0/\∀(k:Nat) x,g.vals[k]?=some x->w.cell? ⟨b,k,none⟩=some x
structure kM (w:World)(G:bD)(β:List nD)(bx:bG):Prop where
 len:β.length=bx.length
 box:∀(j:Nat) aF g,bx[j]?=some aF->β[j]?=some g->Ae w G aF g
def fG(w:World)(G:bD)(w':World)(G':bD)(b:Nat):Prop:=G'.mR b=G.mR b/\w'.heap[b]?=w.heap[b]?
theorem q6{b o:Nat}(h:w'.heap[b]?=w.heap[b]?):w'.cell? ⟨b,o,none⟩=w.cell? ⟨b,o,none⟩:=by simp[World.cell?,h]
theorem Ae.jT{aF:List AV}{g:nD}(h:Ae w G aF g)(hs:tG w G w' G')(hf:∀b,0<(if g.jB=some b then 1 else 0)+cL b aF g.vals->fG w G w' G' b):Ae w' G' aF g where
 vm:=h.vm.mono hs λb hb=>hf b (by omega)
 Dd:=h.Dd
 qD:=by
  rcases h.qD with h|⟨b,c,e,h1,h2,h3,h4,h5⟩;exact .inl h;obtain⟨a1,a2⟩:=hf b (by simp[h1];omega);exact .inr ⟨b,c,e,h1,a2.trans h2,h3,a1.trans h4,λk x hx=>(q6 a2).trans (h5 k x hx)⟩
theorem qE.jT{ob:dA}{loc:lY}(h:qE w G ob loc)(hs:tG w G w' G')(hf:∀b,0<jm b loc ob->fG w G w' G' b):qE w' G' ob loc:=by
 cases ob with
 |rows cQ sz rows=>
  obtain⟨h1,h2,h3⟩:=h;refine⟨h1,h2,h3.GF,h3.Dd,h3.len,h3.size,h3.uf,λi r xs e1 e2=>?_,?_⟩;refine(h3.uI i r xs e1 e2).mono hs λb hb=>hf b ?_;have:=yd b rows loc.vals i r xs e1 e2;simp only[jm];omega;rcases h3.qD with h|⟨b,off,c,e,g1,g2,g3,g4,g5,g6,g7⟩;exact .inl h;obtain⟨a1,a2⟩:=hf b (by
   have:loc.jB=some b:=by unfold lY.jB;rw[U (by omega),g1];rfl
   simp[jm,this];omega)
  exact .inr ⟨b,off,c,e,g1,g2,a2.trans g3,g4,g5,a1.trans g6,λi xs j x e1 e2=>(q6 a2).trans (g7 i xs j x e1 e2)⟩
 |map es=>
  obtain⟨h1,h2,b,wW,clock,h3,h4,h5,h6,h7⟩:=h;obtain⟨a1,a2⟩:=hf b (by
   have:loc.jB=some b:=by unfold lY.jB;rw[U (by omega),h3];rfl
   simp[jm,this])
  refine⟨h1,h2,b,wW,clock,h3,a2.trans h4,a1.trans h5,h6,λi k v e e1 e2=>?_⟩;obtain⟨g1,g2,g3,g4⟩:=h7 i k v e e1 e2;exact⟨g1.jT hs λb hb=>by rw[fV b k _ g4]at hb;omega,g2.jT hs λb hb=>by rw[fV b v _ g3]at hb;omega,g3,g4⟩
theorem bF.held{a:AV}{v:Value}{b:Nat}(h:bF w G a v):0<gT b a v->b<w.heap.size:=by
 induction h with
 |agg cs vs hl h ih=>
  intro hb;simp only[gT]at hb;have key:∀(cs:List AV) (vs:List Value),0<cL b cs vs->∃(i:Nat) (c:AV) (v:Value),cs[i]?=some c/\vs[i]?=some v/\0<gT b c v:=by
   intro cs;induction cs with
   |nil=>intro vs h;rw[DW]at h;omega|cons c cs ih=>
    intro vs h;cases vs with
    |nil=>simp[cL]at h|cons v vs=>
     simp only[cL]at h;by_cases hc:0<gT b c v;exact⟨0,c,v,rfl,rfl,hc⟩;obtain⟨i,c',v',e1,e2,e3⟩:=ih vs (by omega);exact⟨i+1,c',v',by simpa using e1,by simpa using e2,e3⟩
  obtain⟨i,c,v,e1,e2,e3⟩:=key cs vs.toList hb;exact ih i c v e1 (by simpa using e2) e3
 |fK cs vs hl h ih=>
  intro hb;simp only[gT]at hb;have key:∀(cs:List AV) (vs:List Value),0<cL b cs vs->∃(i:Nat) (c:AV) (v:Value),cs[i]?=some c/\vs[i]?=some v/\0<gT b c v:=by
   intro cs;induction cs with
   |nil=>intro vs h;rw[DW]at h;omega|cons c cs ih=>
    intro vs h;cases vs with
    |nil=>simp[cL]at h|cons v vs=>
     simp only[cL]at h;by_cases hc:0<gT b c v;exact⟨0,c,v,rfl,rfl,hc⟩;obtain⟨i,c',v',e1,e2,e3⟩:=ih vs (by omega);exact⟨i+1,c',v',by simpa using e1,by simpa using e2,e3⟩
  obtain⟨i,c,v,e1,e2,e3⟩:=key cs vs.toList hb;exact ih i c v e1 (by simpa using e2) e3
 |k8 sz rows a cap lI gY dL iI qf x7 hc hr jl ig ih=>
  intro hb;simp only[gT]at hb;split at hb;rename_i e;obtain⟨c,e',h1,_⟩:=ig;rw[<-e];exact(abq.1 h1).1;omega
 |raw sz rows a cap lI gY dL iI qf x7 hc hr jl ig ih=>
  intro hb;simp only[gT]at hb;split at hb;rename_i e;obtain⟨c,e',h1,_⟩:=ig;rw[<-e];exact(abq.1 h1).1;omega
 |_=>intro hb;simp[gT]at hb
theorem cU.held{as:List AV}{xs:List Value}{b:Nat}(h:cU w G as xs)(hb:0<cL b as xs):b<w.heap.size:=by
 have:bF w G (.agg as) (.agg xs.toArray):=.agg _ _ (by simpa using h.1) λi c v e1 e2=>h.2 i c v e1 (by simpa using e2);exact this.held (by simpa [gT] using hb)
theorem qE.held{ob:dA}{loc:lY}{b:Nat}(h:qE w G ob loc)(hb:0<jm b loc ob):b<w.heap.size:=by
 have jB:loc.jB=some b->b<w.heap.size:=by
  intro e;unfold lY.jB at e;split at e;cases e;rename_i gY;cases ob with
  |rows cQ sz rows=>
   obtain⟨_,_,h3⟩:=h;rcases h3.qD with⟨h0,_⟩|⟨b',off,c,e',g1,g2,g3,_⟩;exact aU h0 gY;rw[g1]at e;simp at e;subst e;exact(abq.1 g3).1
  |map es=>
   obtain⟨_,_,b',wW,clock,h3,h4,_⟩:=h;rw[h3]at e;simp at e;subst e;exact(abq.1 h4).1
 cases ob with
 |rows cQ sz rows=>
  simp only[jm]at hb;split at hb;exact jB (by assumption);obtain⟨_,_,h3⟩:=h;have key:∀(rs:List (List AV)) (xs:List (List Value)),0<g8 b rs xs->∃(i:Nat) (r:List AV) (x:List Value),rs[i]?=some r/\xs[i]?=some x/\0<cL b r x:=by
   intro rs;induction rs with
   |nil=>intro xs h;simp[g8]at h|cons r rs ih=>
    intro xs h;cases xs with
    |nil=>simp[g8]at h|cons x xs=>
     simp only[g8]at h;by_cases hc:0<cL b r x;exact⟨0,r,x,rfl,rfl,hc⟩;obtain⟨i,r',x',e1,e2,e3⟩:=ih xs (by omega);exact⟨i+1,r',x',by simpa using e1,by simpa using e2,e3⟩
  obtain⟨i,r,x,e1,e2,e3⟩:=key rows loc.vals (by omega);exact(h3.uI i r x e1 e2).held e3
 |map es=>
  simp only[jm]at hb;split at hb;exact jB (by assumption);omega
theorem j8.held{st:ay}{b:Nat}(h:j8 w G st)(hb:0<cR b G.ls st):b<w.heap.size:=by
 have key:∀(ls:List lY) (st:List dA),0<cR b ls st->∃(i:Nat) (l:lY) (o:dA),ls[i]?=some l/\st[i]?=some o/\0<jm b l o:=by
  intro ls;induction ls with
  |nil=>intro st h;simp[cR]at h|cons l ls ih=>
   intro st h;cases st with
   |nil=>simp[cR]at h|cons o st=>
    simp only[cR]at h;by_cases hc:0<jm b l o;exact⟨0,l,o,rfl,rfl,hc⟩;obtain⟨i,l',o',e1,e2,e3⟩:=ih st (by omega);exact⟨i+1,l',o',by simpa using e1,by simpa using e2,e3⟩
 obtain⟨i,l,o,e1,e2,e3⟩:=key G.ls st hb;exact(h.aX i o l e2 e1).held e3
theorem kM.held{bx:bG}{b:Nat}(h:kM w G β bx)(hb:0<ir b β bx):b<w.heap.size:=by
 have key:∀(β:List nD) (bx:bG),0<ir b β bx->∃(i:Nat) (g:nD) (r:List AV),β[i]?=some g/\bx[i]?=some r/\0<(if g.jB=some b then 1 else 0)+cL b r g.vals:=by
  intro β;induction β with
  |nil=>intro st h;simp[ir]at h|cons l ls ih=>
   intro st h;cases st with
   |nil=>simp[ir]at h|cons o st=>
    simp only[ir]at h;by_cases hc:0<(if l.jB=some b then 1 else 0)+cL b o l.vals;exact⟨0,l,o,rfl,rfl,hc⟩;obtain⟨i,l',o',e1,e2,e3⟩:=ih st (by omega);exact⟨i+1,l',o',by simpa using e1,by simpa using e2,e3⟩
 obtain⟨i,g,r,e1,e2,e3⟩:=key β bx hb;have hB:=h.box i r g e2 e1;by_cases hc:0<cL b r g.vals;exact hB.vm.held hc;split at e3;rename_i ig;rcases hB.qD with⟨h0,_⟩|⟨b',c,e',g1,g2,_⟩;rw[h0]at ig;cases ig;rw[g1]at ig;cases ig;exact(abq.1 g2).1;omega
end Ax
namespace Ax
open Go
variable {P:Program}{w w':World}{G G':bD}{β iM:List nD}{ρ:Operand->Value}{o:Oper}
structure jZ (w:World)(G:bD)(β:List nD)(st:ay)(bx:bG)(cO:Nat->Nat)(w':World)(G':bD)(iM:List nD)(st':ay)(gX:bG)(e:fL)(v:Value):Prop where
 jT:tG w G w' G'
 inv:j8 w' G' st'
 box:kM w' G' iM gX
 vm:lf w' G' iM e v
 gT:∀b,dg b e v+ir b iM gX+cR b G'.ls st'<=cO b+ir b β bx+cR b G.ls st+(if w.heap.size<=b then 1 else 0)
 w8:∀b,cO b+ir b β bx+cR b G.ls st=0->b<w.heap.size->fG w G w' G' b
 size:w.heap.size<=w'.heap.size
 os:w'.os=w.os
 out:w'.output=w.output
variable{st:ay}{bx:bG}{v:Value}{ob:Obj}{b sz:Nat}{a:AV}{loc:lY}{rows:List (List AV)}
theorem jZ.nM{cO:Nat->Nat}{e:fL}(hI:j8 w G st)(hB:kM w G β bx)(hr:lf w G β e v)(hc:∀b,dg b e v<=cO b):jZ w G β st bx cO w G β st bx e v where
 jT:=tG.refl w G
 inv:=hI
 box:=hB
 vm:=hr
 gT:=λb=>by have:=hc b;omega
 w8:=λ_ _ _=>⟨rfl,rfl⟩
 size:=aau _
 os:=rfl
 out:=rfl
def bD.new(G:bD)(n:Nat)(x:Option Nat)(l:List lY):bD:=⟨G.ls++l,λb=>if b=n then x else G.mR b⟩
theorem Pw(hw:w'.heap=w.heap.push ob){o:Nat}(hb:b<w.heap.size):w'.cell? ⟨b,o,none⟩=w.cell? ⟨b,o,none⟩:=by
 refine q6 ?_;rw[hw,ah2,U (by omega)]
theorem tJ(hw:w'.heap=w.heap.push ob)(x:Option Nat)(l:List lY):tG w G w' (G.new w.heap.size x l) where
 Rw:=λb o hi=>by
  refine⟨Pw hw hi.1,by rw[hw];simp;have:=hi.1;omega,λp hp=>?_⟩;have:¬b=w.heap.size:=by have:=hi.1;omega
  simp only[bD.new,U this]at hp;exact hi.2 p hp
 fB:=λid loc hl=>by
  refine⟨loc,?_,aau _,λ_=>rfl⟩;simp only[bD.new];rw[aal (aad.1 hl).1];exact hl
theorem iV(hw:w'.heap=w.heap.push ob)(x:Option Nat)(l:List lY)(hb:b<w.heap.size):fG w G w' (G.new w.heap.size x l) b:=by
 refine⟨by simp only[bD.new];rw[U (by omega)],?_⟩;rw[hw,ah2,U (by omega)]
theorem bF.push(hw:w'.heap=w.heap.push ob)(x:Option Nat)(l:List lY)(h:bF w G a v):bF w' (G.new w.heap.size x l) a v:=
 h.jT (tJ hw x l) λ_ hb=>iV hw x l (h.held hb)
theorem cU.push{ob:Obj}(hw:w'.heap=w.heap.push ob)(x:Option Nat)(l:List lY){as:List AV}{xs:List Value}(h:cU w G as xs):cU w' (G.new w.heap.size x l) as xs:=
 ⟨h.1,λi c v e1 e2=>(h.2 i c v e1 e2).push hw x l⟩
theorem NW(hw:w'.heap=w.heap.push ob)(x:Option Nat)(hI:j8 w G st):j8 w' (G.new w.heap.size x []) st where
 len:=by simp[bD.new,hI.len]
 aX:=λid Jw loc h1 h2=>by
  simp only[bD.new,ac5]at h2;have h:=hI.aX id Jw loc h1 h2;exact h.jT (tJ hw x []) λb hb=>iV hw x [] (h.held hb)
 nE:=λb p hp=>by
  simp only[bD.new]at hp;rw[hw];simp only[ahJ];split at hp;omega;have:=hI.nE b p hp;omega
theorem JS(hw:w'.heap=w.heap.push ob)(x:Option Nat)(hI:j8 w G st){ao:dA}(h:qE w' (G.new w.heap.size x [loc]) ao loc):j8 w' (G.new w.heap.size x [loc]) (st++[ao]) where
 len:=by simp[bD.new,hI.len]
 aX:=λid Jw l h1 h2=>by
  simp only[bD.new]at h2;by_cases Bw:id<st.length;rw[aal Bw]at h1;rw[aal (by rw[hI.len];exact Bw)]at h2;have h:=hI.aX id Jw l h1 h2;exact h.jT (tJ hw x [loc]) λb hb=>iV hw x [loc] (h.held hb);rw[aar (by omega)]at h1;rw[aar (by rw[hI.len];omega)]at h2;rw[hI.len]at h2;have h0:id-st.length=0:=by
   have:=(aad.1 h1).1;simp at this;omega
  rw[h0]at h1 h2;simp at h1 h2;subst h1;subst h2;exact h
 nE:=λb p hp=>by
  simp only[bD.new]at hp;rw[hw];simp only[ahJ];split at hp;omega;have:=hI.nE b p hp;omega
theorem D1(hw:w'.heap=w.heap.push ob)(x:Option Nat)(l:List lY)(hB:kM w G β bx):kM w' (G.new w.heap.size x l) β bx where
 len:=hB.len
 box:=λj aF g h1 h2=>by
  have h:=hB.box j aF g h1 h2;refine h.jT (tJ hw x l) λb hb=>iV hw x l (hB.held (b:=b) ?_);have:=n7 b β bx j g aF h2 h1;omega
theorem Df(hw:w'.heap=w.heap.push ob)(LI:w'.os=w.os)(yO:w'.output=w.output)(x:Option Nat)(hI:j8 w G st)(hB:kM w G β bx){cO:Nat->Nat}
  (hr:bF w' (G.new w.heap.size x []) a v)(hc:∀b,gT b a v<=if b=w.heap.size then 1 else 0):jZ w G β st bx cO w' (G.new w.heap.size x []) β st bx (.val a) v where
 jT:=tJ hw x []
 inv:=NW hw x hI
 box:=D1 hw x [] hB
 vm:=hr
 gT:=λb=>by
  have:=hc b;simp only[dg,bD.new,ac5];split at this;rename_i e;subst e;simp;omega;omega
 w8:=λb _ hb=>iV hw x [] hb
 size:=by rw[hw];simp
 os:=LI
 out:=yO
theorem tK(hw:w'.heap=w.heap.push ob)(LI:w'.os=w.os)(yO:w'.output=w.output)(hI:j8 w G st)(hB:kM w G β bx){cO:Nat->Nat}{ao:dA}
  (h:qE w' (G.new w.heap.size (some 0) [loc]) ao loc)(hr:bF w' (G.new w.heap.size (some 0) [loc]) a v)(hn:a.cS=true)(hc:∀b,jm b loc ao<=(if b=w.heap.size then 1 else 0)+cO b) :
  jZ w G β st bx cO w' (G.new w.heap.size (some 0) [loc]) β (st++[ao]) bx (.val a) v where
 jT:=tJ hw _ _
 inv:=JS hw _ hI h
 box:=D1 hw _ _ hB
 vm:=hr
 gT:=λb=>by
  have h1:=hc b;simp only[dg,bD.new,fV b a v hn];rw[tH b _ _ _ _ hI.len];simp only[cR];split at h1;rename_i e;subst e;simp;omega;omega
 w8:=λb _ hb=>iV hw _ _ hb
 size:=by rw[hw];simp
 os:=LI
 out:=yO
theorem tL{sz:Nat}{α:Type}:∀(rows:List (List α))(i j:Nat) r c,(∀r∈rows,r.length=sz)->rows[i]?=some r->r[j]?=some c->rows.flatten[i*sz+j]?=some c
 |[],_,_,_,_,_,h,_=>by simp at h|r0::rows,0,j,r,c,hf,h1,h2=>by
  simp at h1;subst h1;simp only[acH,aiE,aex];rw[aal (aad.1 h2).1];exact h2
 |r0::rows,i+1,j,r,c,hf,h1,h2=>by
  have ih:=tL rows i j r c (λr hr=>hf r (by simp[hr])) (by simpa using h1) h2;have h0:r0.length=sz:=hf r0 (by simp);simp only[acH];rw[aar (by rw[h0,aeq];omega),h0];rw[show (i+1)*sz+j-sz=i*sz+j by rw[aeq];omega];exact ih
theorem cV:cn sz rows=true↔∀r∈rows,r.length=sz:=by
 simp[cn]
theorem gy{sz:Nat}{α:Type}:∀(rows:List (List α)),(∀r∈rows,r.length=sz)->rows.flatten.length=rows.length*sz
 |[],_=>by simp|r::rows,h=>by
  simp only[acH,abv,abr];rw[gy rows λr hr=>h r (by simp[hr]),h r (by simp),aeq];omega
def sv{α:Type}(sz:Nat):Nat->List α->List (List α)
 |0,_=>[]
 |n+1,xs=>xs.take sz::sv sz n (xs.drop sz)
theorem Ck{α:Type}(sz:Nat):∀(n:Nat)(xs:List α),(sv sz n xs).length=n
 |0,_=>rfl|n+1,xs=>by simp[sv,Ck sz n]
theorem D2{α:Type}(sz:Nat):∀(n:Nat)(xs:List α)(i:Nat) ys,(sv sz n xs)[i]?=some ys->ys=(xs.drop (i*sz)).take sz
 |0,_,_,_,h=>by simp[sv]at h|n+1,xs,0,ys,h=>by simp[sv]at h;simp[h]|n+1,xs,i+1,ys,h=>by
  simp only[sv,List.getElem?_cons_succ]at h;rw[D2 sz n _ i ys h,adC];congr 2;rw[aeq];omega
theorem GJ{sz:Nat}:∀(rows:List (List AV))(i:Nat) r,(∀r∈rows,r.length=sz)->rows[i]?=some r->(rows.flatten.drop (i*sz)).take sz=r
 |[],_,_,_,h=>by simp at h|r0::rows,0,r,hf,h=>by
  simp at h;subst h;have h0:r0.length=sz:=hf r0 (by simp);simp[<-h0]
 |r0::rows,i+1,r,hf,h=>by
  have ih:=GJ rows i r (λr hr=>hf r (by simp[hr])) (by simpa using h);have h0:r0.length=sz:=hf r0 (by simp);simp only[acH];rw[show (i+1)*sz=r0.length+i*sz by rw[h0,aeq];omega,<-adC,List.drop_left];exact ih
theorem sw{sz:Nat}(b:Nat):∀(rows:List (List AV))(xs:List Value),(∀r∈rows,r.length=sz)->rows.flatten.length=xs.length->g8 b rows (sv sz rows.length xs)=cL b rows.flatten xs
 |[],xs,_,_=>by simp[g8,DW]|r::rows,xs,hf,hl=>by
  have h0:r.length=sz:=hf r (by simp);simp only[abr,sv,g8,acH];rw[acH,abv]at hl;rw[sw b rows (xs.drop sz) (λr hr=>hf r (by simp[hr])) (by rw[List.length_drop];omega)];have:=gZ b r rows.flatten (xs.take sz) (xs.drop sz) (by rw[List.length_take];omega);rw[List.take_append_drop]at this;omega
theorem oe{off:Nat}{c:Array Value}{e:TypeId}{xs:List Value}(hf:cn sz rows=true)(jC:∀r∈rows,AV.bw r=true)(fm:cU w G rows.flatten xs)
  (h1:loc.len=rows.length)(h2:loc.sz=sz)(h3:loc.vals=sv sz rows.length xs)(h4:loc.a=some ⟨b,off,none⟩)(h5:0<loc.cap)(h6:w.heap[b]?=some (.cells c e (0,0)))(h7:off+loc.cap*sz<=c.size)
  (h8:rows.length<=loc.cap) (h9:G.mR b=some 0) (Bx:∀(k:Nat) x,xs[k]?=some x->w.cell? ⟨b,off+k,none⟩=some x):wZ w G sz rows loc where
 GF:=hf
 Dd:=jC
 len:=h1
 size:=h2
 uf:=by rw[h3,Ck]
 uI:=λi r ys e1 e2=>by
  rw[h3]at e2;rw[D2 _ _ _ _ _ e2,<-GJ rows i r (cV.1 hf) e1];exact(fm.drop _).take _
 qD:=by
  refine .inr ⟨b,off,c,e,h4,h5,h6,h7,h8,h9,λi ys j x e1 e2=>?_⟩;rw[h3]at e1;rw[D2 _ _ _ _ _ e1,acv]at e2;split at e2;rw[adw]at e2;exact Bx _ x e2;cases e2
end Ax
namespace Ax
open Go
variable {P:Program}{w w':World}{G G':bD}{β iM:List nD}{ρ:Operand->Value}{o:Oper}
variable{c:Array Value}{e t:TypeId}{sz cap n:Nat}{rows:List (List AV)}{xs:List Value}{st:ay}{bx:bG}{z:Value}{zero:List AV}
theorem D3(hw:w'.heap=w.heap.push (.cells c e)){k:Nat}{x:Value}(h:c[k]?=some x):w'.cell? ⟨w.heap.size,k,none⟩=some x:=by
 simp[World.cell?,hw,h]
theorem sx{ob:Obj}(hw:w'.heap=w.heap.push ob):w'.heap[w.heap.size]?=some ob:=by simp[hw]
theorem RG{l:List lY}(hw:w'.heap=w.heap.push (.cells c e))(hf:cn sz rows=true)(jC:∀r∈rows,AV.bw r=true)
  (fm:cU w G rows.flatten xs)(h5:0<cap)(h7:cap*sz<=c.size)(h8:rows.length<=cap)(hx:∀(k:Nat) x,xs[k]?=some x->c[k]?=some x)(cQ:Nat) :
  wZ w' (G.new w.heap.size (some 0) l) sz rows ⟨some ⟨w.heap.size,0,none⟩,cap,rows.length,sz,cQ,false,sv sz rows.length xs⟩:=
 oe hf jC (fm.push hw _ _) rfl rfl rfl rfl h5 (sx hw) (by simpa using h7) h8 (by simp[bD.new]) λk x hk=>by
  rw[aex];exact D3 hw (hx k x hk)
theorem w9(hI:j8 w G st)(hB:kM w G β bx){cO:Nat->Nat}(hw:w'.heap=w.heap.push (.cells c e))(LI:w'.os=w.os)(yO:w'.output=w.output)
  (hf:cn sz rows=true)(jC:∀r∈rows,AV.bw r=true)(fm:cU w G rows.flatten xs)(h5:0<cap)(h7:cap*sz<=c.size)(h8:rows.length<=cap)
  (hx:∀(k:Nat) x,xs[k]?=some x->c[k]?=some x) (hc:∀b,cL b rows.flatten xs<=cO b) :
  ∃G',jZ w G β st bx cO w' G' β (st++[.rows 0 sz rows]) bx (.val (.mu st.length 0)) (.slice (some ⟨w.heap.size,0,none⟩) rows.length cap)/\
   jZ w G β st bx cO w' G' β (st++[.rows 0 sz rows]) bx (.val (.ptr st.length 0 0 0)) (.pointer (some ⟨w.heap.size,0,none⟩)):=by
 have hR:=RG (l:=[⟨some ⟨w.heap.size,0,none⟩,cap,rows.length,sz,0,false,sv sz rows.length xs⟩]) hw hf jC fm h5 h7 h8 hx 0;have L5:∀b,jm b ⟨some ⟨w.heap.size,0,none⟩,cap,rows.length,sz,0,false,sv sz rows.length xs⟩ (.rows 0 sz rows)<=(if b=w.heap.size then 1 else 0)+cO b:=by
  intro b;simp only[jm,lY.jB];rw[sw b rows xs (cV.1 hf) fm.1,U (show ¬cap=0 by omega)];have:=hc b;simp only[aef,bh];by_cases hb:b=w.heap.size;subst hb;simp;omega;rw[U (λh=>hb h.symm),U hb];omega
 have hl:(G.new w.heap.size (some 0) [⟨some ⟨w.heap.size,0,none⟩,cap,rows.length,sz,0,false,sv sz rows.length xs⟩]).ls[st.length]?=some ⟨some ⟨w.heap.size,0,none⟩,cap,rows.length,sz,0,false,sv sz rows.length xs⟩:=by
  simp only[bD.new];rw[aar (by rw[hI.len];exact aau _),hI.len];simp
 refine⟨_,tK hw LI yO hI hB ⟨rfl,rfl,hR⟩ (.mu _ _ _ _ ⟨_,_,_,rfl⟩ hl (aau _) λ_=>rfl) rfl L5,
  tK hw LI yO hI hB ⟨rfl,rfl,hR⟩ (.ptr _ _ _ _ _ _ ⟨_,rfl⟩ hl (aau _) λ_=>⟨_,rfl,by simp⟩) rfl L5⟩
theorem H9{b off:Nat}(hf:cn sz rows=true)(jC:∀r∈rows,AV.bw r=true)(iI:∀r∈rows,AV.fq r=true)(qf:∀r∈rows,AV.ax r=true)
  (fm:cU w G rows.flatten xs)(h6:w.heap[b]?=some (.cells c e (0,0)))(h7:off+cap*sz<=c.size)(h8:rows.length<=cap)(h9:G.mR b=some (off+rows.length*sz))
  (hx:∀(k:Nat) x,xs[k]?=some x->c[off+k]?=some x):bF w G (.k8 sz rows) (.slice (some ⟨b,off,none⟩) rows.length cap):=by
 have oX:∀(k:Nat) x,xs[k]?=some x->w.cell? ⟨b,off+k,none⟩=some x:=λk x h=>by simp[World.cell?,h6,hx k x h]
 have key:∀(i:Nat) r (j:Nat) a,rows[i]?=some r->r[j]?=some a->∃v,w.cell? ⟨b,off+(i*sz+j),none⟩=some v/\bF w G a v:=by
  intro i r j a h1 h2;have h3:=tL rows i j r a (cV.1 hf) h1 h2;have bC:i*sz+j<xs.length:=by rw[<-fm.1];exact(aad.1 h3).1
  exact⟨_,oX _ _ (aag bC),fm.2 _ _ _ h3 (aag bC)⟩
 refine .k8 sz rows ⟨b,off,none⟩ cap rfl h8 hf iI qf jC (λi r j a h1 h2=>?_) (λi r j a v h1 h2 h3=>?_) h9 ⟨c,e,h6,h7⟩;obtain⟨v,h,_⟩:=key i r j a h1 h2;exact⟨v,h⟩;obtain⟨v',h,h'⟩:=key i r j a h1 h2;rw[h]at h3;cases h3;exact h'
theorem Ia(hI:j8 w G st)(hB:kM w G β bx){cO:Nat->Nat}(hw:w'.heap=w.heap.push (.cells c e))(LI:w'.os=w.os)(yO:w'.output=w.output)
  (hf:cn sz rows=true)(jC:∀r∈rows,AV.bw r=true)(iI:∀r∈rows,AV.fq r=true)(qf:∀r∈rows,AV.ax r=true)
  (fm:cU w G rows.flatten xs) (h7:cap*sz<=c.size) (h8:rows.length<=cap)
  (hx:∀(k:Nat) x,xs[k]?=some x->c[k]?=some x) :
  ∃G',jZ w G β st bx cO w' G' β st bx (.val (.k8 sz rows)) (.slice (some ⟨w.heap.size,0,none⟩) rows.length cap):=by
 refine⟨_,Df hw LI yO (some (rows.length*sz)) hI hB (H9 hf jC iI qf (fm.push hw _ _) (sx hw) (by simpa using h7) h8 (by simp[bD.new]) λk x hk=>by rw[aex];exact hx k x hk) λb=>?_⟩;simp only[gT];split;rename_i h;rw[ah h.symm];omega;omega
theorem Wb{b off:Nat}(hf:cn sz rows=true)(jC:∀r∈rows,AV.bw r=true)(iI:∀r∈rows,AV.fq r=true)(qf:∀r∈rows,AV.ax r=true)
  (fm:cU w G rows.flatten xs)(h6:w.heap[b]?=some (.cells c e (0,0)))(h7:off+cap*sz<=c.size)(h8:rows.length<=cap)(h9:G.mR b=some 0)
  (hx:∀(k:Nat) x,xs[k]?=some x->c[off+k]?=some x):bF w G (.raw sz rows) (.slice (some ⟨b,off,none⟩) rows.length cap):=by
 have oX:∀(k:Nat) x,xs[k]?=some x->w.cell? ⟨b,off+k,none⟩=some x:=λk x h=>by simp[World.cell?,h6,hx k x h]
 have key:∀(i:Nat) r (j:Nat) a,rows[i]?=some r->r[j]?=some a->∃v,w.cell? ⟨b,off+(i*sz+j),none⟩=some v/\bF w G a v:=by
  intro i r j a h1 h2;have h3:=tL rows i j r a (cV.1 hf) h1 h2;have bC:i*sz+j<xs.length:=by rw[<-fm.1];exact(aad.1 h3).1
  exact⟨_,oX _ _ (aag bC),fm.2 _ _ _ h3 (aag bC)⟩
 refine .raw sz rows ⟨b,off,none⟩ cap rfl h8 hf iI qf jC (λi r j a h1 h2=>?_) (λi r j a v h1 h2 h3=>?_) h9 ⟨c,e,h6,h7⟩;obtain⟨v,h,_⟩:=key i r j a h1 h2;exact⟨v,h⟩;obtain⟨v',h,h'⟩:=key i r j a h1 h2;rw[h]at h3;cases h3;exact h'
theorem Wc(hI:j8 w G st)(hB:kM w G β bx){cO:Nat->Nat}(hw:w'.heap=w.heap.push (.cells c e))(LI:w'.os=w.os)(yO:w'.output=w.output)
  (hf:cn sz rows=true)(jC:∀r∈rows,AV.bw r=true)(iI:∀r∈rows,AV.fq r=true)(qf:∀r∈rows,AV.ax r=true)
  (fm:cU w G rows.flatten xs) (h7:cap*sz<=c.size) (h8:rows.length<=cap)
  (hx:∀(k:Nat) x,xs[k]?=some x->c[k]?=some x) :
  ∃G',jZ w G β st bx cO w' G' β st bx (.val (.raw sz rows)) (.slice (some ⟨w.heap.size,0,none⟩) rows.length cap):=by
 refine⟨_,Df hw LI yO (some 0) hI hB (Wb hf jC iI qf (fm.push hw _ _) (sx hw) (by simpa using h7) h8 (by simp[bD.new]) λk x hk=>by rw[aex];exact hx k x hk) λb=>?_⟩;simp only[gT];split;rename_i h;rw[ah h.symm];omega;omega
theorem NX{aF:List AV}(hI:j8 w G st)(hB:kM w G β bx){cO:Nat->Nat}(hw:w'.heap=w.heap.push (.cells c e))(LI:w'.os=w.os)(yO:w'.output=w.output)
  {j:Nat}(hj:j<bx.length)(fm:cU w G aF c.toList)(jC:AV.bw aF=true)(hc:∀b,cL b aF c.toList<=cO b) :
  jZ w G β st bx cO w' (G.new w.heap.size (some 0) []) (β.set j ⟨some w.heap.size,c.toList⟩) st (bx.set j aF) (.fp j 0) (.pointer (some ⟨w.heap.size,0,none⟩)) where
 jT:=tJ hw _ _
 inv:=NW hw _ hI
 box:=by
  have hB':=D1 hw (some 0) [] hB;refine⟨by simp[hB.len],λi r g h1 h2=>?_⟩;rw[abp]at h1 h2;split at h1;rename_i CT;subst CT;rw[ah rfl,ah (by rw[hB.len];exact hj)]at h2;cases h1;cases h2;refine⟨fm.push hw _ _,jC,.inr ⟨w.heap.size,c,e,rfl,sx hw,by rw[fm.1];simp,by simp[bD.new],λk x hk=>D3 hw (by simpa using hk)⟩⟩;rw[U (by assumption)]at h2;exact hB'.box i r g h1 h2
 vm:=⟨_,_,by rw[abp,ah rfl,ah (by rw[hB.len];exact hj)],rfl,rfl⟩
 gT:=λb=>by
  have hjb:j<β.length:=by rw[hB.len];exact hj
  have hg:β[j]?=some β[j]:=aag hjb;have hr:bx[j]?=some bx[j]:=aag hj;have h1:=Ad b β bx j _ _ ⟨some w.heap.size,c.toList⟩ aF hg hr;have h2:=hc b;simp only[dg,bD.new,ac5];simp only[bh]at h1;by_cases hb:w.heap.size=b;subst hb;simp only[aQ]at h1;rw[ah (aau _)];omega;rw[U hb]at h1;omega
 w8:=λb _ hb=>iV hw _ _ hb
 size:=by rw[hw];simp
 os:=LI
 out:=yO
theorem NY(ho:o.op=.alloc t){i:TypeInfo}(hi:P.info? t=some i)(hz:i.zero=some z) :
  (execOp ρ o).run P w=.ok (.value (.pointer (some ⟨w.heap.size,0,none⟩))) (w.alloc (.cells z.cells t)):=by
 simp[execOp,ho,Instr.alloc,zeroValue,typeInfo,hi,hz,newVar,newRow]
theorem Zg{x:Operand}(ho:o.op=.box t x) :
  (execOp ρ o).run P w=.ok (.value (.pointer (some ⟨w.heap.size,0,none⟩))) (w.alloc (.cells (ρ x).cells t)):=by
 simp[execOp,ho,Instr.box,newVar,newRow]
theorem GK(h:∀c∈zero,c.cS=true/\c.aB=true)(b:Nat)(xs:List Value):cL b zero xs=0:=
 eS b _ _ ((dm zero).2 λc hc=>(h c hc).1)
theorem Py(hI:j8 w G st)(hB:kM w G β bx){cO:Nat->Nat}(fm:cU w G zero z.cells.toList)(hn:∀c∈zero,c.cS=true/\c.aB=true)(hc:AV.bw zero=true) :
  ∃G',jZ w G β st bx cO (w.alloc (.cells z.cells t)) G' β (st++[.rows 0 zero.length [zero]]) bx (.val (.ptr st.length 0 0 0)) (.pointer (some ⟨w.heap.size,0,none⟩)):=by
 obtain⟨G',_,h⟩:=w9 (sz:=zero.length) (cap:=1) (rows:=[zero]) (c:=z.cells) (e:=t) (xs:=z.cells.toList) (w':=w.alloc (.cells z.cells t)) (cO:=cO) hI hB rfl rfl rfl (by simp[cn]) (by simpa using hc) (by simpa using fm) (by omega)
  (by rw[fm.1];simp) (by simp) (by simp) (λb=>by simp only[acH,aiI,ac5];rw[GK hn];omega)
 exact⟨G',h⟩
theorem RH(hI:j8 w G st)(hB:kM w G β bx){cO:Nat->Nat}{a:AV}{v:Value}(hv:bF w G a v)(hn:a.cells.length=n)(hc:AV.bw a.cells=true)(hO:∀b,gT b a v<=cO b) :
  ∃G',jZ w G β st bx cO (w.alloc (.cells v.cells t)) G' β (st++[.rows 0 n [a.cells]]) bx (.val (.ptr st.length 0 0 0)) (.pointer (some ⟨w.heap.size,0,none⟩)):=by
 obtain⟨hr,NT⟩:=hv.cells;obtain⟨G',_,h⟩:=w9 (sz:=n) (cap:=1) (rows:=[a.cells]) (c:=v.cells) (e:=t) (xs:=v.cells.toList) (w':=w.alloc (.cells v.cells t)) (cO:=cO) hI hB rfl rfl rfl (by simp[cn,hn]) (by simpa using hc) (by simpa using hr) (by omega)
  (by rw[<-hn,hr.1];simp) (by simp) (by simp) (λb=>by simp only[acH,aiI,ac5];rw[NT];exact hO b)
 exact⟨G',h⟩
theorem D4{α:Type}{sz:Nat}:∀(rows:List (List α))(i:Nat)(r:List α),(∀r∈rows,r.length=sz)->r.length=sz->i<rows.length->(rows.set i r).flatten=au rows.flatten (i*sz) r
 |[],_,_,_,_,h=>by simp at h|r0::rows,0,r,hf,hr,_=>by
  have h0:r0.length=sz:=hf r0 (by simp);have e:=kB (r0++rows.flatten) 0 r (by simp;omega);simp only[aev,acH,aiE];rw[e];simp[hr,<-h0]
 |r0::rows,i+1,r,hf,hr,h=>by
  have h0:r0.length=sz:=hf r0 (by simp);have hf':∀r∈rows,r.length=sz:=λr hr=>hf r (by simp[hr]);have ih:=D4 rows i r hf' hr (by simpa using h);have bC:i<rows.length:=by simpa using h
  have hle:i*sz+r.length<=rows.flatten.length:=by
   rw[gy rows hf',hr]
   calc i*sz+sz=(i+1)*sz:=by rw[aeq]
    _<=rows.length*sz:=acw _ bC
  have h1:(i+1)*sz=r0.length+i*sz:=by rw[h0,aeq];omega
  simp only[afl,acH];rw[ih,h1,kB (r0++rows.flatten) _ _ (by rw[abv];omega),kB _ _ _ hle,Nat.add_assoc,List.take_append,List.drop_append];simp[List.append_assoc,show r0.length+i*sz-r0.length=i*sz by omega,show r0.length+(i*sz+r.length)-r0.length=i*sz+r.length by omega,List.take_of_length_le,List.drop_of_length_le]
theorem yY{sz:Nat}:∀(qs:List Nat)(vs:List AV)(rows fJ:List (List AV)),(∀r∈rows,r.length=sz)->iu sz rows qs vs=some fJ->
  jw rows.flatten (qs.map λi=>(i*sz,sz)) vs=some fJ.flatten/\(∀r∈fJ,r.length=sz)/\fJ.length=rows.length
 |[],[],rows,fJ,hf,h=>by simp[iu]at h;subst h;exact⟨rfl,hf,rfl⟩|[],_::_,_,_,_,h=>by simp[iu]at h|_::_,[],_,_,_,h=>by simp[iu]at h|i::qs,v::vs,rows,fJ,hf,h=>by
  simp only[iu]at h;split at h;rename_i hc;simp only[aac,aK]at hc;have hf':∀r∈rows.set i v.cells,r.length=sz:=by
   intro r hr;rcases List.mem_or_eq_of_mem_set hr with h|h;exact hf r h;rw[h];exact hc.1
  obtain⟨e1,e2,e3⟩:=yY qs vs _ fJ hf' h;refine⟨?_,e2,by simpa using e3⟩;have hle:i*sz+sz<=rows.flatten.length:=by
   rw[gy rows hf]
   calc i*sz+sz=(i+1)*sz:=by rw[aeq]
    _<=rows.length*sz:=acw _ hc.2
  simp only[abn,jw];rw[ah (by simp only[hc.1,decide_true,Bool.true_and,aK];exact hle),<-D4 rows i v.cells hf hc.1 hc.2];exact e1;cases h
theorem zu(sz n:Nat)(zero:List AV)(hz:zero.length=sz)(dM:0<sz)(k:Nat)(hk:k<n*sz):(aak n zero).flatten[k]?=zero[k % sz]?:=by
 have hi:k / sz<n:=Nat.div_lt_of_lt_mul (by rw[Nat.mul_comm];exact hk);have hj:k % sz<zero.length:=by rw[hz];exact Nat.mod_lt _ dM
 have h:=tL (sz:=sz) (aak n zero) (k / sz) (k % sz) zero zero[k % sz] (λr hr=>by rw[abt hr,hz]) (by rw[List.getElem?_replicate,ah hi]) (aag hj);rw[Nat.mul_comm,Nat.div_add_mod]at h;rw[h,aag hj]
theorem By{z:Array Value}(fm:cU w G zero z.toList)(hz:zero.length=sz)(dM:0<sz) :
  cU w G (aak n zero).flatten (((Array.range (n*sz)).map (z[· % z.size]!)).toList):=by
 have hs:z.size=sz:=by rw[<-hz,fm.1];simp
 refine⟨by rw[gy (sz:=sz) _ (λr hr=>by rw[abt hr,hz])];simp,λk c v h1 h2=>?_⟩;have hk:k<n*sz:=by
  have:=(aad.1 h2).1;simpa using this
 rw[zu sz n zero hz dM k hk]at h1;have hm:k % sz<z.size:=by rw[hs];exact Nat.mod_lt _ dM
 simp only[ahw,Array.toList_range,aei,afb hk,aef,bh,hs]at h2;refine fm.2 _ c v h1 ?_;rw[<-h2,getElem!_pos z (k % sz) hm];simp[hm]
theorem Zh{parts:Array (Nat×Operand)}(ho:o.op=.buildSlice t n parts)(hu:P.underlying t=some (.slice e))(dM:di P e sz=true)(L6:n*sz<=16777216)(hz:o4 P e zero=true)
  (Wd:0<sz)(RI:zero.length=sz){qs:List Nat}(hq:parts.toList.map (·.1)=qs){vs:List AV}(uL:iu sz (aak n zero) qs vs=some rows)(hn:0<n)(hv:cU w G vs (parts.toList.map λp=>ρ p.2)) :
  ∃cells,(execOp ρ o).run P w=.ok (.value (.slice (some ⟨w.heap.size,0,none⟩) rows.length n)) (w.alloc (.cells cells e))/\cU w G rows.flatten cells.toList/\(∀b,cL b rows.flatten cells.toList<=cL b vs (parts.toList.map λp=>ρ p.2))/\
   cn sz rows=true/\rows.length=n/\n*sz=cells.size:=by
 obtain⟨i,z,hi,RC,oL,JM,_⟩:=mG hz w G;obtain⟨i',rN,F0,_⟩:=me dM;rw[hi]at rN;cases rN;obtain⟨e1,e2,e3⟩:=yY qs vs _ rows (λr hr=>by rw[abt hr,RI]) uL;have H6:(parts.map λ(x:Nat×Operand)=>(x.1,ρ x.2)).toList.map (·.2)=parts.toList.map λp=>ρ p.2:=by simp[Function.comp_def]
 obtain⟨cells,f1,f2,f3⟩:=HZ (place:=λi=>some (i*sz,sz)) (parts.map λ(x:Nat×Operand)=>(x.1,ρ x.2)).toList _ vs _ _ _ e1 (By oL RI Wd) (by rw[H6];exact hv) (by
  intro k p q h1 h2;subst hq;simp only[ahw,aei,acs,List.map_map]at h1 h2;obtain⟨p',h1,rfl⟩:=h1;obtain⟨p'',h2,rfl⟩:=h2;rw[h1]at h2;cases h2
  rfl)
 have qi:rows.length=n:=by rw[e3];simp
 have hnz:¬n*i.size=0:=by rw[F0];have:=Nat.mul_pos hn Wd;omega
 have:=run_buildSlice w t e n (parts.map λ(x:Nat×Operand)=>(x.1,ρ x.2)) cells i z hu hi RC (by rw[F0];omega) hnz (by rw[F0];exact f1);refine⟨cells,?_,f2,λb=>?_,cV.2 e2,qi,?_⟩;simp only[execOp,ho,cg,this,cZ,Sem.run_pure,qi];have h1:=f3 b;rw[H6]at h1;have h2:cL b (aak n zero).flatten ((Array.range (n*sz)).map (z.cells[· % z.cells.size]!)).toList=0:=by
  refine eS b _ _ ((dm _).2 λc hc=>?_);obtain⟨r,hr,hc⟩:=aeZ.1 hc;rw[abt hr]at hc;exact(JM c hc).1
 omega;have:=f2.1;rw[gy rows e2,qi]at this;simpa using this
theorem JT{x y:Operand}(ho:o.op=.makeSlice t x y)(hu:P.underlying t=some (.slice e)){bytes:Nat}(dM:di P e sz=true)(We:pT P e bytes=true)(hz:o4 P e zero=true)(Wd:0<sz)(RI:zero.length=sz)
  {n c:Int}(hx:ρ x=.int .i64 n)(hy:ρ y=.int .i64 c)(h0:0<=n)(h1:n<=c)(h2:c*bytes<=cN)(h3:c<=9223372036854775807) :
  ∃cells,(execOp ρ o).run P w=.ok (.value (.slice (some ⟨w.heap.size,0,none⟩) n.toNat c.toNat)) (w.alloc (.cells cells e))/\cells.size=c.toNat*sz/\
   cU w G (aak n.toNat zero).flatten (cells.toList.take (n.toNat*sz))/\∀b xs,cL b (aak n.toNat zero).flatten xs=0:=by
 obtain⟨i,z,hi,RC,oL,JM,_⟩:=mG hz w G;obtain⟨i',rN,F0,_⟩:=me dM;rw[hi]at rN;cases rN;have hb:i.bytes=bytes:=by simpa [pT,hi] using We
 have:=run_make (P:=P) w t e i z hu hi RC .i64 .i64 n c h0 h1 (by rw[hb,Int.mul_comm];simp only[cN]at h2;omega) h3;refine⟨madeCells z.cells (c.toNat*i.size),by simp only[execOp,ho,hx,hy,cg,this,cZ,Sem.run_pure],by rw[size_madeCells,F0],?_,λb xs=>?_⟩;have hle:n.toNat*sz<=c.toNat*sz:=acw _ (by omega);have h:=By (w:=w) (G:=G) (n:=c.toNat) oL RI Wd;have h':=h.take (n.toNat*sz);rw[F0];unfold madeCells;have e:(aak c.toNat zero).flatten.take (n.toNat*sz)=(aak n.toNat zero).flatten:=by
  have:c.toNat=n.toNat+(c.toNat-n.toNat):=by omega
  rw[this,<-List.replicate_append_replicate,agq,aiN];exact gy (sz:=sz) _ (λr hr=>by rw[abt hr,RI]) |>.trans (by simp)
 rw[e]at h';exact h';refine eS b _ _ ((dm _).2 λc hc=>?_);obtain⟨r,hr,hc⟩:=aeZ.1 hc;rw[abt hr]at hc;exact(JM c hc).1
theorem Wf(hI:j8 w G st)(hB:kM w G β bx){cO:Nat->Nat}:∃G',jZ w G β st bx cO (w.alloc (.map #[] 0)) G' β (st++[.map []]) bx (.val (.map st.length)) (.map (some w.heap.size)):=by
 have hl:(G.new w.heap.size (some 0) [⟨some ⟨w.heap.size,0,none⟩,1,0,0,0,true,[]⟩]).ls[st.length]?=some ⟨some ⟨w.heap.size,0,none⟩,1,0,0,0,true,[]⟩:=by
  simp only[bD.new];rw[aar (by rw[hI.len];exact aau _),hI.len];simp
 refine⟨_,tK (loc:=⟨some ⟨w.heap.size,0,none⟩,1,0,0,0,true,[]⟩) (ao:=.map []) (w':=w.alloc (.map #[] 0)) (ob:=.map #[] 0) rfl rfl rfl hI hB ⟨rfl,rfl,w.heap.size,#[],0,rfl,sx rfl,by simp[bD.new],rfl,λi k v e h=>by simp at h⟩ (.map _ _ _ hl rfl rfl) rfl λb=>?_⟩;simp only[jm,lY.jB];by_cases hb:b=w.heap.size;subst hb;simp;simp[hb];rw[U λh=>hb h.symm];omega
end Ax
namespace Ax
open Go
variable {P:Program}{w w':World}{G G':bD}{β iM:List nD}{ρ:Operand->Value}{o:Oper}
theorem qj{α:Type}{sz:Nat}:∀(rows:List (List α))(k:Nat)(c:α),(∀r∈rows,r.length=sz)->rows.flatten[k]?=some c->∃i j r,k=i*sz+j/\rows[i]?=some r/\r[j]?=some c
 |[],k,c,_,h=>by simp at h|r0::rows,k,c,hf,h=>by
  have h0:r0.length=sz:=hf r0 (by simp);simp only[acH]at h;by_cases hk:k<r0.length;rw[aal hk]at h;exact⟨0,k,r0,by simp,rfl,h⟩;rw[aar (by omega)]at h;obtain⟨i,j,r,e1,e2,e3⟩:=qj rows _ c (λr hr=>hf r (by simp[hr])) h;exact⟨i+1,j,r,by rw[aeq];omega,by simpa using e2,e3⟩
theorem vA:∀(rows:List (List AV))(vals:List (List Value)),rows.length=vals.length->(∀(i:Nat) r xs,rows[i]?=some r->vals[i]?=some xs->cU w G r xs)->cU w G rows.flatten vals.flatten
 |[],[],_,_=>⟨rfl,λi c v h=>by simp at h⟩
 |[],_::_,h,_=>by simp at h|_::_,[],h,_=>by simp at h|r::rows,x::vals,hl,h=>by
  obtain⟨a1,a2⟩:=h 0 r x rfl rfl;obtain⟨b1,b2⟩:=vA rows vals (by simpa using hl) λi r xs h1 h2=>h (i+1) r xs (by simpa using h1) (by simpa using h2);refine⟨by simp only[acH,abv,a1,b1],λi c v h1 h2=>?_⟩;simp only[acH]at h1 h2;by_cases hi:i<r.length;rw[aal hi]at h1;rw[aal (by omega)]at h2;exact a2 i c v h1 h2;rw[aar (by omega)]at h1;rw[aar (by omega),<-a1]at h2;exact b2 _ c v h1 h2
theorem Af(b:Nat):∀(rows:List (List AV))(vals:List (List Value)),rows.length=vals.length->(∀(i:Nat) r xs,rows[i]?=some r->vals[i]?=some xs->r.length=xs.length)->cL b rows.flatten vals.flatten=g8 b rows vals
 |[],[],_,_=>rfl|[],_::_,h,_=>by simp at h|_::_,[],h,_=>by simp at h|r::rows,x::vals,hl,h=>by
  simp only[acH,g8];rw[gZ b r _ x _ (h 0 r x rfl rfl),Af b rows vals (by simpa using hl) λi r xs h1 h2=>h (i+1) r xs (by simpa using h1) (by simpa using h2)]
theorem cU.append{as bs:List AV}{xs ys:List Value}(h:cU w G as xs)(k:cU w G bs ys):cU w G (as++bs) (xs++ys):=by
 refine⟨by simp[h.1,k.1],λi c v h1 h2=>?_⟩;by_cases hi:i<as.length;rw[aal hi]at h1;rw[aal (by rw[<-h.1];exact hi)]at h2;exact h.2 i c v h1 h2;rw[aar (by omega)]at h1;rw[aar (by rw[<-h.1];omega),<-h.1]at h2;exact k.2 _ c v h1 h2
variable{sz:Nat}{rows:List (List AV)}
theorem JU{a:Addr}{n cap:Nat}(h:bF w G (.eE sz rows) (.slice (some a) n cap)) :
  n=rows.length/\a.spot=none/\cn sz rows=true/\(∀r∈rows,AV.fq r=true)/\(∀r∈rows,AV.ax r=true)/\(∀r∈rows,AV.bw r=true)/\
  ∃xs:List Value,cU w G rows.flatten xs/\∀(k:Nat) x,xs[k]?=some x->w.cell? ⟨a.block,a.off+k,none⟩=some x:=by
 cases h with
 |eE _ _ _ _ lI gY dL iI qf x7 hc hr=>
 refine⟨rfl,lI,dL,iI,qf,x7,(List.range rows.flatten.length).map λk=>(w.cell? ⟨a.block,a.off+k,none⟩).getD undef,⟨by simp,λk c v h1 h2=>?_⟩,λk x h=>?_⟩;obtain⟨i,j,r,rfl,e2,e3⟩:=qj rows k c (cV.1 dL) h1;obtain⟨_,y,hy⟩:=hc i r j c e2 e3;have hk:=(aad.1 h1).1;rw[aei,afb hk,aef,hy]at h2;cases h2;exact hr i r j c y e2 e3 hy;have hk:k<rows.flatten.length:=by have:=(aad.1 h).1;simpa using this
 rw[aei,afb hk,aef]at h;obtain⟨i,j,r,rfl,e2,e3⟩:=qj rows k _ (cV.1 dL) (aag hk);obtain⟨_,y,hy⟩:=hc i r j _ e2 e3;rw[hy]at h ⊢;simpa using h
theorem Cl(a:AV):a.ai.dj=a.dj:=by cases a<;>simp[AV.ai,AV.dj]
theorem sy:∀(cs:List AV),AV.bw (AV.cW cs)=AV.bw cs
 |[]=>rfl|c::cs=>by
  have:=sy cs;simp only[AV.bw]at this;simp only[AV.cW,AV.bw,List.all_cons,Cl,this]
theorem yZ:∀(rows:List (List AV)),(rows.map AV.cW).flatten=AV.cW rows.flatten
 |[]=>rfl|r::rows=>by
  have ajc:∀a b:List AV,AV.cW (a++b)=AV.cW a++AV.cW b:=by
   intro a b;induction a with
   |nil=>rfl|cons x a ih=>simp only[acA,AV.cW,ih]
  simp only[abn,acH,ajc,yZ rows]
theorem Pz(l:List UInt8):(nL l).flatten=l.map λb=>AV.int .u8 b.toNat:=by
 unfold nL;induction l with
 |nil=>rfl|cons b l ih=>simp only[abn,acH,ih];rfl
theorem Bz{st:ay}(hI:j8 w G st){a:AV}{v:Value}(h:bF w G a v)(hb:dx st a=some rows)(hf:cn sz rows=true){tx:TypeId}
  (hk:(∃e',P.underlying tx=some (.slice e'))\/P.underlying tx=some .string) :
  ∃xs,cU w G rows.flatten xs/\Go.Src P sz tx v rows.length xs w/\(∀r∈rows,AV.bw r=true)/\(∀r∈rows,AV.fq r=true)/\((∀id cQ,a≠.mu id cQ)->∀r∈rows,AV.ax r=true):=by
 have slice:∀(ad:Addr) (c:Nat) (xs:List Value),ad.spot=none->cU w G rows.flatten xs->(∀(k:Nat) x,xs[k]?=some x->w.cell? ⟨ad.block,ad.off+k,none⟩=some x)->(∀r∈rows,AV.bw r=true)->
   Go.Src P sz tx (.slice (some ad) rows.length c) rows.length xs w:=by
  intro ad c xs lI fm hx jC;have hl:xs.length=rows.length*sz:=by rw[<-fm.1];exact gy rows (cV.1 hf)
  obtain⟨bl,of,sp⟩:=ad;simp only at lI hx;subst lI;have Ze:∀j u,xs[j]?=some u->w.cell? ((⟨bl,of,none⟩:Addr).add j)=some u:=λj u h=>by rw[mj];exact hx j u h
  have RJ:∀u∈xs,u.oneCell'=true:=fm.V2 (by
   simp only[AV.bw,aaB];intro c hc;obtain⟨r,hr,hc⟩:=aeZ.1 hc;have:=jC r hr;simp only[AV.bw,aaB]at this;exact this c hc)
  exact⟨hk,λ_=>rfl,run_firstCells_some w sz rows.length ⟨bl,of,none⟩ rows.length c xs hl Ze,run_firstCells_some w.drew sz rows.length ⟨bl,of,none⟩ rows.length c xs hl (by simpa using Ze),hl,RJ⟩
 have eE:∀s,bF w G (.eE s rows) v->∃xs,cU w G rows.flatten xs/\Go.Src P sz tx v rows.length xs w/\(∀r∈rows,AV.bw r=true)/\(∀r∈rows,AV.fq r=true)/\((∀id cQ,a≠.mu id cQ)->∀r∈rows,AV.ax r=true):=by
  intro s h;have h0:∃a n c,v=.slice (some a) n c:=by cases h;exact⟨_,_,_,rfl⟩
  obtain⟨ad,n,c,rfl⟩:=h0;obtain⟨e1,e2,e3,e4,e5,e6,xs,e7,e8⟩:=JU h;subst e1;exact⟨xs,e7,slice ad c xs e2 e7 e8 e6,e6,e4,λ_=>e5⟩
 have Zi:rows=[]->∀c,v=.slice none 0 c->∃xs,cU w G rows.flatten xs/\Go.Src P sz tx v rows.length xs w/\(∀r∈rows,AV.bw r=true)/\(∀r∈rows,AV.fq r=true)/\((∀id cQ,a≠.mu id cQ)->∀r∈rows,AV.ax r=true):=by
  intro h0 c hv;subst h0;subst hv;exact⟨[],⟨rfl,λi c v h=>by simp at h⟩,⟨hk,λ_=>rfl,run_firstCells_none w sz 0 0 c,run_firstCells_none w.drew sz 0 0 c,by simp,λu hu=>by cases hu⟩,by simp,by simp,by simp⟩
 unfold dx at hb;split at hb
 ·rename_i l;cases hb;obtain⟨s,rfl,rfl⟩:=h.nv;refine⟨byteCells s,?_,?_,?_,?_,?_⟩;rw[Pz];unfold byteCells;refine⟨by simp,λi c v h1 h2=>?_⟩;simp only[aei,acs]at h1 h2;obtain⟨b,h1,rfl⟩:=h1;obtain⟨b',h2,rfl⟩:=h2;rw[h1]at h2;cases h2;exact .int _ _;have hlen:(nL s.data.toList).length=s.size:=by simp[nL]
  rw[hlen];have one:∀u∈byteCells s,u.oneCell'=true:=λu hu=>by
   obtain⟨_,_,rfl⟩:=ab9.1 hu
   rfl
  by_cases hs:sz=1;subst hs;exact⟨hk,λ_=>rfl,firstCells_string s w,firstCells_string s w.drew,by rw[byteCells_length,Nat.mul_one],one⟩;have h0:s.size=0:=by
   rcases Nat.eq_zero_or_pos s.size with h|h;exact h;have h2:s.data.toList≠[]:=by
    intro h3;have:s.data.toList.length=s.size:=by simp
    rw[h3]at this;simp at this;omega
   obtain⟨b,l,hl⟩:=List.exists_cons_of_ne_nil h2;rw[hl]at hf;simp[cn,nL]at hf;exact aU hf.1.symm hs
  have VE:byteCells s=[]:=by
   apply aaK;rw[byteCells_length,h0]
  have Wg:∀w',(Builtin.firstCells sz s.size (.string s)).run P w'=.ok (byteCells s).toArray w':=λw'=>firstCells_string s w';exact⟨hk,λ_=>rfl,Wg w,Wg w.drew,by rw[VE,h0,aiE];rfl,one⟩;all_goals
   intros
   rename_i hr;simp only[nL,ab9]at hr;obtain⟨b,_,rfl⟩:=hr;simp[AV.bw,AV.dj,AV.fq,AV.cS,AV.ax,AV.aB]
 ·rename_i id cQ;split at hb
  ·rename_i fJ hr;cases hb;simp only[ff]at hr;split at hr
   ·rename_i v' s ajd ja;split at hr
    ·rename_i hv;cases hr;obtain⟨loc,hl,Ch,Bo,jb⟩:=hI.loc ja;cases h with
     |mu _ _ _ loc' hp qZ FZ he=>
      rw[hl]at qZ;cases qZ;have hve:cQ=loc.cQ:=(by omega);have dG:=he hve;rw[jb.len]at dG;have jC:∀r∈fJ.map AV.cW,AV.bw r=true:=λr hr=>by
       obtain⟨r',yP,rfl⟩:=ab9.1 hr;rw[sy];exact jb.Dd r' yP
      have iI:∀r∈fJ.map AV.cW,AV.fq r=true:=λr hr=>by
       obtain⟨r',yP,rfl⟩:=ab9.1 hr;exact iD r'
      rcases jb.qD with⟨h0,qh,_⟩|⟨b,off,c,e',L2,gY,gw,hle,hlen,jl,eY⟩
      ·subst qh;simp only[List.length_nil]at dG;cases aeQ:loc.a with
       |none=>
        rw[aeQ]at dG;exact Zi (by simp) _ dG
       |some ad=>
        refine⟨[],⟨rfl,λi c v h=>by simp at h⟩,⟨hk,λ_=>by rw[dG];simp[Builtin.lenOf],?_,?_,by simp,by simp⟩,jC,iI,λh=>aU rfl (h id cQ)⟩;all_goals
         rw[dG,aeQ];simp[Builtin.firstCells,loadCells,loadCellsFrom]
      rw[L2]at dG;subst dG;have fm:cU w G (fJ.map AV.cW).flatten loc.vals.flatten:=by
       rw[yZ];exact(vA fJ loc.vals jb.uf.symm jb.uI).ai
      have NZ:∀r∈loc.vals,r.length=s:=λr hr=>by
       obtain⟨i,hi,rfl⟩:=List.mem_iff_getElem.1 hr;have rN:i<fJ.length:=(by rw[<-jb.uf];exact hi);rw[<-(jb.uI i fJ[i] loc.vals[i] (aag rN) (aag hi)).1];exact cV.1 jb.GF _ (List.getElem_mem rN)
      have:=slice ⟨b,off,none⟩ loc.cap loc.vals.flatten rfl fm (λk x hx=>by
       obtain⟨i,j,r,rfl,e2,e3⟩:=qj loc.vals k x NZ hx;exact eY i r j x e2 e3) jC
      simp only[List.length_map]at this ⊢;exact⟨_,fm,this,jC,iI,λh=>aU rfl (h id cQ)⟩
    cases hr
   cases hr
  cases hb
 ·rename_i N0 hn2;unfold ff at hb;split at hb;cases hb;cases h;exact Zi rfl _ rfl
  ·cases hb;cases h;rename_i ad;refine⟨[],⟨rfl,λi c v h=>by simp at h⟩,⟨hk,λ_=>rfl,?_,?_,by simp,by simp⟩,by simp,by simp,by simp⟩;all_goals simp[Builtin.firstCells,loadCells,loadCellsFrom]
  cases hb;exact eE _ h;cases hb;exact eE _ h.ai;rename_i id cQ;exact aU rfl (hn2 id cQ);cases hb
end Ax
namespace Ax
open Go
variable {P:Program}{w w':World}{G G':bD}{β iM:List nD}{ρ:Operand->Value}{o:Oper}
theorem iY(g p:Nat)(t:TypeId)(vs:List Value)(gh:Array Value)(w:World)(hg:w.heap[g]?=some (.cells gh t (0,0)))(hl:p+vs.length<=gh.size)(h1:∀v∈vs,v.oneCell'=true) :
  (storeCells ⟨g,p,none⟩ vs).run P w=.ok () (w.setRow g (au gh.toList p vs).toArray):=by
 have:=run_storeCells_at P g p t vs 0 gh w hg (by simpa using hl) h1;rw[kB _ _ _ (by simpa using hl)];simpa using this
structure Wr (w:World)(G:bD)(w':World)(G':bD)(b:Nat):Prop where
 size:w'.heap.size=w.heap.size
 heap:∀b',b'≠b->w'.heap[b']?=w.heap[b']?
 Wh:∀b',b'≠b->G'.mR b'=G.mR b'
 mR:∃p p',G.mR b=some p/\G'.mR b=some p'/\p<=p'/\∀o,o<p->w'.cell? ⟨b,o,none⟩=w.cell? ⟨b,o,none⟩
 fB:∀(id:Nat) loc,G.ls[id]?=some loc->∃loc',G'.ls[id]?=some loc'/\loc.cQ<=loc'.cQ/\(loc.cQ=loc'.cQ\/loc.mp=true->loc'.hd=loc.hd)
theorem Wr.jT{b:Nat}(h:Wr w G w' G' b):tG w G w' G' where
 Rw:=λb' o hi=>by
  by_cases hb:b'=b;subst hb;obtain⟨p,p',h1,h2,h3,h4⟩:=h.mR;have ho:=hi.2 p h1;refine⟨h4 o ho,by rw[h.size];exact hi.1,λq hq=>?_⟩;rw[h2]at hq;cases hq;omega;refine⟨q6 (h.heap b' hb),by rw[h.size];exact hi.1,λp hp=>?_⟩;rw[h.Wh b' hb]at hp;exact hi.2 p hp
 fB:=h.fB
theorem Wr.jV{b b':Nat}(h:Wr w G w' G' b)(hb:b'≠b):fG w G w' G' b':=⟨h.Wh b' hb,h.heap b' hb⟩
theorem D5(G:bD):∀(id:Nat) loc,G.ls[id]?=some loc->∃loc',G.ls[id]?=some loc'/\loc.cQ<=loc'.cQ/\(loc.cQ=loc'.cQ\/loc.mp=true->loc'.hd=loc.hd):=λ_ loc h=>⟨loc,h,aau _,λ_=>rfl⟩
def bD.at(G:bD)(id:Nat)(loc:lY):bD:=⟨G.ls.set id loc,G.mR⟩
variable{id bytes sz:Nat}{loc':lY}{st:ay}{e:TypeId}{vs:List Value}{i:TypeInfo}{z:Value}
theorem D6{loc:lY}(hl:G.ls[id]?=some loc)(hv:loc.cQ<=loc'.cQ)(hh:loc.cQ=loc'.cQ\/loc.mp=true->loc'.hd=loc.hd):∀(i:Nat) l,G.ls[i]?=some l->∃l',(G.at id loc').ls[i]?=some l'/\l.cQ<=l'.cQ/\(l.cQ=l'.cQ\/l.mp=true->l'.hd=l.hd):=by
 intro i l h;by_cases hi:i=id;subst hi;rw[hl]at h;cases h;exact⟨loc',by simp only[bD.at];rw[abp,ah rfl,ah (aad.1 hl).1],hv,hh⟩;exact⟨l,by simp only[bD.at];rw[abp,U (λe=>hi e.symm)];exact h,aau _,λ_=>rfl⟩
theorem L7{loc:lY}(hl:G.ls[id]?=some loc)(hv:loc.cQ<=loc'.cQ)(hh:loc.cQ=loc'.cQ\/loc.mp=true->loc'.hd=loc.hd):tG w G w (G.at id loc'):=
 ⟨λ_ _ h=>⟨rfl,h⟩,D6 hl hv hh⟩
theorem Dg(hI:j8 w G st)(hs:tG w G w' G'){Jw:dA}(RK:G'.ls=G.ls.set id loc')(hu:∀(i:Nat) l ob b,i≠id->G.ls[i]?=some l->st[i]?=some ob->0<jm b l ob->fG w G w' G' b)
  (uM:qE w' G' Jw loc')(ht:∀b p,G'.mR b=some p->b<w'.heap.size):j8 w' G' (st.set id Jw) where
 len:=by rw[RK];simp[hI.len]
 aX:=λi ob loc h1 h2=>by
  rw[RK]at h2;rw[abp]at h1 h2;by_cases hi:id=i;subst hi;rw[ah rfl]at h1 h2;split at h1;split at h2;cases h1;cases h2;exact uM;cases h2;cases h1;rw[U hi]at h1 h2;exact(hI.aX i ob loc h1 h2).jT hs λb hb=>hu i loc ob b (λe=>hi e.symm) h2 h1 hb
 nE:=ht
theorem xd(hI:j8 w G st)(hs:tG w G w' G')(RK:G'.ls=G.ls)(hu:∀b,0<cR b G.ls st->fG w G w' G' b)(ht:∀b p,G'.mR b=some p->b<w'.heap.size):j8 w' G' st where
 len:=by rw[RK];exact hI.len
 aX:=λi ob loc h1 h2=>by
  rw[RK]at h2;refine(hI.aX i ob loc h1 h2).jT hs λb hb=>hu b ?_;have:=n6 b G.ls st i loc ob h2 h1;omega
 nE:=ht
theorem nN{bx:bG}(hB:kM w G β bx)(hs:tG w G w' G')(hu:∀b,0<ir b β bx->fG w G w' G' b):kM w' G' β bx where
 len:=hB.len
 box:=λj aF g h1 h2=>(hB.box j aF g h1 h2).jT hs λb hb=>hu b (by
  have:=n7 b β bx j g aF h2 h1;omega)
theorem Wr.nE{b:Nat}{st:ay}(h:Wr w G w' G' b)(hI:j8 w G st):∀b p,G'.mR b=some p->b<w'.heap.size:=by
 intro b' p hp;rw[h.size];by_cases hb:b'=b;subst hb;obtain⟨q,q',h1,_⟩:=h.mR;exact hI.nE _ _ h1;rw[h.Wh b' hb]at hp;exact hI.nE _ _ hp
theorem D7{b p p':Nat}{gh:Array Value}{q:Nat}{ls:List lY}(hg:w.heap[b]?=some (.cells gh e (0,0)))(hl:q+vs.length<=gh.size)(ht:G.mR b=some p)(F3:p<=q)(hpp:p<=p')
  (CU:∀(id:Nat) loc,G.ls[id]?=some loc->∃loc',ls[id]?=some loc'/\loc.cQ<=loc'.cQ/\(loc.cQ=loc'.cQ\/loc.mp=true->loc'.hd=loc.hd)) :
  Wr w G (w.setRow b (au gh.toList q vs).toArray) ⟨ls,λb'=>if b'=b then some p' else G.mR b'⟩ b where
 size:=setRow_size _ _ _
 heap:=λb' hb=>setRow_other w b b' _ hb
 Wh:=λb' hb=>by simp[hb]
 mR:=⟨p,p',ht,by simp,hpp,λo ho=>by
  rw[cell_setRow_same w b o gh _ e (0,0) hg];have:w.cell? ⟨b,o,none⟩=gh[o]?:=by simp[World.cell?,hg]
  rw[this,agZ,jU _ _ _ _ (by simpa using hl),U (by omega)];simp⟩
 fB:=CU
theorem tM{b q k:Nat}{gh:Array Value}(hg:w.heap[b]?=some (.cells gh e (0,0)))(hl:q+vs.length<=gh.size) :
  (w.setRow b (au gh.toList q vs).toArray).cell? ⟨b,k,none⟩=if q<=k/\k<q+vs.length then vs[k-q]? else w.cell? ⟨b,k,none⟩:=by
 rw[cell_setRow_same w b k gh _ e (0,0) hg];have:w.cell? ⟨b,k,none⟩=gh[k]?:=by simp[World.cell?,hg]
 rw[this,agZ,jU _ _ _ _ (by simpa using hl)];simp
structure L8 (P:Program)(t tx e:TypeId)(sz bytes:Nat)(i:TypeInfo)(z:Value):Prop where
 ht:P.underlying t=some (.slice e)
 hi:P.info? e=some i
 hz:i.zero=some z
 dM:i.size=sz
 We:i.bytes=bytes
 Pt:z.cells.size=sz
 pos:0<sz
 RL:0<bytes
 kind:(∃e',P.underlying tx=some (.slice e'))\/P.underlying tx=some .string
theorem N1{n:Nat}(h:n*bytes<=140737488355328)(hb:0<bytes):((n:Nat):Int)<=9223372036854775807:=by
 have:n<=n*bytes:=Nat.le_mul_of_pos_right n hb;omega
theorem sA{t tx ty:TypeId}(h:L8 P t tx e sz bytes i z)(b off iJ kT:Nat)(gh:Array Value)(e0:TypeId)(hg:w.heap[b]?=some (.cells gh e0 (0,0)))(x:Value)(n:Nat)(news:List Value)(hs:Go.Src P sz tx x n news w)
  (qR:iJ+n<=kT)(dL:off+kT*sz<=gh.size) :
  (Builtin.append_ #[t,tx] ty #[.slice (some ⟨b,off,none⟩) iJ kT,x]).run P w=.ok (.slice (some ⟨b,off,none⟩) (iJ+n) kT) (w.setRow b (au gh.toList (off+iJ*sz) news).toArray):=by
 have hle:off+iJ*sz+news.length<=gh.size:=by
  rw[hs.newsLen];have:(iJ+n)*sz<=kT*sz:=acw _ qR;rw[ae7]at this;omega
 have ja:=iY (P:=P) b (off+iJ*sz) e0 news gh w hg hle hs.one;have hc:=hs.cells;have dM:=h.dM;subst dM;rcases hs.kind with⟨e',hk⟩|hk<;>simp[Builtin.append_,cj h.ht,cj hk,Go.sizeOf,typeInfo,h.hi,hs.len,qR,hc,Addr.add_lit,ja]
theorem sB{t tx ty:TypeId}(h:L8 P t tx e sz bytes i z)(base:Option Addr)(iJ kT:Nat)(olds:List Value)
  (hold:(Builtin.firstCells sz iJ (.slice base iJ kT)).run P w.drew=.ok olds.toArray w.drew)(N2:olds.length=iJ*sz)(x:Value)(n:Nat)(news:List Value)(hs:Go.Src P sz tx x n news w)
  (hg:kT<iJ+n) (hb:(iJ+n)*bytes<=140737488355328) :
  ∃cap c,(Builtin.append_ #[t,tx] ty #[.slice base iJ kT,x]).run P w=.ok (.slice (some ⟨w.heap.size,0,none⟩) (iJ+n) cap) (w.drew.alloc (.cells c e))/\iJ+n<=cap/\cap*sz<=c.size/\
   ∀(k:Nat) v,(olds++news)[k]?=some v->c[k]?=some v:=by
 have dM:=h.dM;subst dM;have We:=h.We;subst We;refine⟨_,_,run_append_grow_src w t tx ty e i z h.ht h.hi h.hz base iJ kT olds hold x n news hs hg (N1 hb h.RL) (growslice_fits hg hb),grownCap_ge _ _ _ _,?_,λk v hv=>?_⟩;have h1:=grownCap_ge w (iJ+n) kT e;rw[Array.size_append,size_zeroCells,h.Pt];simp only[aew,abv,N2,hs.newsLen];rw[<-ae7,<-ae7];exact acw _ (by omega);have hk:=(aad.1 hv).1;rw[Array.getElem?_append,ah (by simpa using hk)];simpa using hv
theorem GM(a:Addr):w.drew.cell? a=w.cell? a:=rfl
theorem cU.Gh{rows:List (List AV)}(h:∀r∈rows,AV.bw r=true):AV.bw rows.flatten=true:=by
 simp only[AV.bw,aaB];intro c hc;obtain⟨r,hr,hc⟩:=aeZ.1 hc;have:=h r hr;simp only[AV.bw,aaB]at this;exact this c hc
theorem xg{a b:List (List AV)}(h:cn sz a=true)(k:cn sz b=true):cn sz (a++b)=true:=by
 rw[cV]at *;intro r hr;rcases abw.1 hr with h'|h';exact h r h';exact k r h'
theorem pU{a b:List (List AV)}{p:List AV->Prop}(h:∀r∈a,p r)(k:∀r∈b,p r):∀r∈a++b,p r:=by
 intro r hr;rcases abw.1 hr with h'|h';exact h r h';exact k r h'
theorem RM{t tx ty:TypeId}(h:L8 P t tx e sz bytes i z){bx:bG}(hI:j8 w G st)(hB:kM w G β bx){cO:Nat->Nat}(hX:∀b,cO b+ir b β bx+cR b G.ls st<=1)
  {s x:AV}{vs vx:Value}(hs:bF w G s vs)(hx:bF w G x vx)(lz:∀b,gT b s vs<=cO b){wl aa:Nat}{st':ay}{gX:bG}{r:fL}(ha:bn wl aa (.append sz bytes) [.val s,.val x] st bx=some (r,st',gX)) :
  ∃v w' G',(Builtin.append_ #[t,tx] ty #[vs,vx]).run P w=.ok v w'/\jZ w G β st bx cO w' G' β st' gX r v:=by
 simp only[bn]at ha;split at ha;cases ha
 ·rename_i new uM;split at ha
  ·rename_i dL;have LJ:∀id cQ,x≠.mu id cQ:=by
    intro id cQ hx;subst hx;simp[dx,ff]at uM
   have aeR:dx st x=some new:=by
    unfold dx at uM ⊢;cases x<;>simp_all [ff]
   obtain⟨news,fm,sC,jC,iI,qf⟩:=Bz hI hx aeR dL h.kind;have qf:=qf LJ;have fresh:∀base,(Builtin.firstCells sz 0 (.slice base 0 0)).run P w.drew=.ok ([]:List Value).toArray w.drew->new≠[]->new.length*bytes<=cN->
     ∃v w' G',(Builtin.append_ #[t,tx] ty #[.slice base 0 0,vx]).run P w=.ok v w'/\jZ w G β st bx cO w' G' β st bx (.val (.k8 sz new)) v:=by
    intro base hf fy hr;have hn:0<new.length:=List.length_pos_iff.2 fy;obtain⟨cap,c,e1,e2,e3,e4⟩:=sB (ty:=ty) h base 0 0 [] hf (by simp) vx new.length news sC (by omega) (by simpa [cN] using hr);simp only[aex,List.nil_append]at e1 e2 e4;obtain⟨G',hA⟩:=Ia (w':=w.drew.alloc (.cells c e)) (cO:=cO) hI hB rfl rfl rfl dL jC iI qf fm e3 e2 e4;exact⟨_,_,G',e1,hA⟩
   split at ha;split at ha;rename_i BA;cases ha;have h0:new=[]:=(by simpa using BA);subst h0;cases hs;have hn:news=[]:=by
    have:=fm.1;simp at this;exact aaK this.symm
   subst hn;have:=run_append_nothing w t tx ty e i h.ht h.hi none 0 0 (aau _) vx (by rw[h.dM];exact sC);exact⟨_,_,_,this,jZ.nM hI hB (bF.af) λb=>by simp[dg,gT]⟩;rename_i BA;split at ha;rename_i hr;cases ha;cases hs;exact fresh none (run_firstCells_none _ _ _ _ _) (by simpa using BA) hr;cases ha
   ·split at ha
    ·rename_i BA;cases ha;have h0:new=[]:=(by simpa using BA);subst h0;have hn:news=[]:=by
      have:=fm.1;simp at this;exact aaK this.symm
     subst hn;cases hs with
     |mE a=>
     have:=run_append_nothing w t tx ty e i h.ht h.hi (some a) 0 0 (aau _) vx (by rw[h.dM];exact sC);exact⟨_,_,_,this,jZ.nM hI hB (bF.mE a) λb=>by simp[dg,gT]⟩
    ·rename_i BA;split at ha
     ·rename_i hr;cases ha;cases hs with
      |mE a=>
      exact fresh (some a) (by simp[Builtin.firstCells,loadCells,loadCellsFrom]) (by simpa using BA) hr
     cases ha
   ·rename_i ke js;split at ha
    ·rename_i hc;simp only[aac,aK]at hc;obtain⟨rfl,hr⟩:=hc;cases ha;have hv:=hs.ai;cases hs with
     |k8 _ _ a cap lI gY hfo aam aeS aeT VE hr0 jl ig=>
     simp only[AV.ai]at hv;obtain⟨_,_,_,_,_,_,olds,hro,hxo⟩:=JU hv;obtain⟨b,off,sp⟩:=a;simp only at lI jl ig hxo;subst lI;have N2:olds.length=js.length*ke:=(by rw[<-hro.1];exact gy js (cV.1 hfo));have N3:news.length=new.length*ke:=sC.newsLen;have ko:=xg hfo dL;have tN:(js++new).flatten=js.flatten++new.flatten:=agq;by_cases qR:js.length+new.length<=cap;obtain⟨c,e0,hg,Zj⟩:=ig;have hle:off+js.length*ke+news.length<=c.size:=by
      rw[N3];have:(js.length+new.length)*ke<=cap*ke:=acw _ qR;rw[ae7]at this;omega
     have e1:=sA (ty:=ty) h b off js.length cap c e0 hg vx new.length news sC qR Zj;have hW:Wr w G (w.setRow b (au c.toList (off+js.length*ke) news).toArray) ⟨G.ls,λb'=>if b'=b then some (off+(js++new).length*ke) else G.mR b'⟩ b:=
      D7 hg hle jl (aau _) (by rw[abv,ae7];omega) (D5 G)
     have lU:cO b=1/\ir b β bx=0/\cR b G.ls st=0:=by
      have h1:=hX b;have h2:=lz b;simp only[gT,aQ]at h2;omega
     have JV:∀b',b'≠b->fG w G _ _ b':=λb' hb=>hW.jV hb;refine⟨_,_,⟨G.ls,λb'=>if b'=b then some (off+(js++new).length*ke) else G.mR b'⟩,e1,?_⟩;have aeV:cU (w.setRow b (au c.toList (off+js.length*ke) news).toArray) ⟨G.ls,λb'=>if b'=b then some (off+(js++new).length*ke) else G.mR b'⟩ (js++new).flatten (olds++news):=by
      rw[tN];refine(hro.append fm).mono hW.jT λb' nV=>?_;rw[<-tN,eS b' _ _ ((dm _).2 λx hx=>?_)]at nV;omega;obtain⟨r,hr,hx⟩:=aeZ.1 hx;exact(dm r).1 (pU aam iI r hr) x hx
     have gw:=setRow_heap w b c (au c.toList (off+js.length*ke) news).toArray e0 (0,0) hg;have hrv:=H9 (cap:=cap) ko (pU aeT jC) (pU aam iI) (pU aeS qf) aeV gw (by rw[aew,fh];simpa using Zj) (by simpa using qR) (by simp) (λk x hk=>by
      rw[agZ,jU _ _ _ _ (by simpa using hle)];by_cases JW:k<olds.length;rw[aal JW]at hk;rw[U (by omega)];have:=hxo k x hk;simpa [World.cell?,hg] using this;rw[aar (by omega)]at hk;have bC:=(aad.1 hk).1;rw[ah (by omega)];rw[show off+k-(off+js.length*ke)=k-olds.length by omega];exact hk)
     refine⟨hW.jT,xd hI hW.jT rfl (λb' nV=>JV b' ?_) (hW.nE hI),nN hB hW.jT λb' nV=>JV b' ?_,by rw[<-abv];exact hrv,λb'=>?_,λb' nV _=>JV b' ?_,by simp,rfl,rfl⟩;intro e;subst e;omega;intro e;subst e;omega;have h2:=lz b';simp only[gT]at h2;simp only[dg,gT];omega;intro e;subst e;omega;have yP:(js.length+new.length)*bytes<=140737488355328:=hr;have hf:(Builtin.firstCells ke js.length (.slice (some ⟨b,off,none⟩) js.length cap)).run P w.drew=.ok olds.toArray w.drew:=
      run_firstCells_some w.drew ke js.length ⟨b,off,none⟩ js.length cap olds N2 (λj v hj=>by rw[mj,GM];exact hxo j v hj)
     obtain⟨PA,c,e1,e2,e3,e4⟩:=sB (ty:=ty) h (some ⟨b,off,none⟩) js.length cap olds hf N2 vx new.length news sC (by omega) yP;rw[<-abv]at e1 e2;obtain⟨G',hA⟩:=Ia (w':=w.drew.alloc (.cells c e)) (cO:=cO) hI hB rfl rfl rfl ko (pU aeT jC) (pU aam iI) (pU aeS qf) (by rw[tN];exact hro.append fm) e3 e2 e4;exact⟨_,_,G',e1,hA⟩
    cases ha
   cases ha
  cases ha
end Ax
