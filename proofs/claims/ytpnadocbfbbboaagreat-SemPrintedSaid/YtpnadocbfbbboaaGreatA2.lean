/- Part of a proof. -/
import Derived.Test.YtpnadocbfbbboaaGreatA1
import Derived.Laws.Tables
import Derived.Laws.Cells
import Derived.Laws.CopyRow
import Derived.Great.BuildSlice
import Derived.Laws.MakeOwn
import Derived.Carry
import Derived.Deep.Upon

namespace Ax
open Go
variable {P:Program}{w:World}{G:aQ}{β:List mS}{ρ:Operand->Value}{o:Oper}
theorem Mt{c:Call}{x:Operand}(h:c.args.toList=[x]):c.args = #[x]:=by
 have:=congrArg List.toArray h;simpa using this
theorem oH{c:Call}{x y:Operand}(h:c.args.toList=[x,y]):c.args = #[x,y]:=by
 have:=congrArg List.toArray h;simpa using this
theorem afP{c:Call}(ho:o.op=.call c)(hc:c.callee=.builtin .max){x y:Operand}(hx:c.args.toList=[x,y]){k:IntKind}{a b:Int}
  (ha:aS w G (.int k a) (ρ x))(hb:aS w G (.int k b) (ρ y)):(execOp ρ o).run P w=.ok (.value (.int k (if b > a then b else a))) w:=by
 simp only[execOp,ho,resolve,hc,Sem.run_bind,Sem.run_pure,Result.andThen_ok,invoke,builtin,oH hx];simp[Builtin.max_,Builtin.max2,ha.fO,hb.fO]
theorem afQ{c:Call}(ho:o.op=.call c)(hc:c.callee=.builtin .min){x y:Operand}(hx:c.args.toList=[x,y]){k:IntKind}{a b:Int}
  (ha:aS w G (.int k a) (ρ x))(hb:aS w G (.int k b) (ρ y)):(execOp ρ o).run P w=.ok (.value (.int k (if b<a then b else a))) w:=by
 simp only[execOp,ho,resolve,hc,Sem.run_bind,Sem.run_pure,Result.andThen_ok,invoke,builtin,oH hx];simp[Builtin.min_,Builtin.min2,ha.fO,hb.fO]
theorem yJ{x:Operand}(ho:o.op=.nilCheck x){a:Addr}(hx:ρ x=.pointer (some a)):(execOp ρ o).run P w=.ok (.value (ρ x)) w:=by
 simp only[execOp,ho,hx];rfl
theorem Qi{x:Operand}{i:Nat}(ho:o.op=.extract x i){vs:List AV}{v:AV}(hv:vs[i]?=some v)(ha:aS w G (.fF vs) (ρ x)) :
  ∃u,(execOp ρ o).run P w=.ok (.value u) w/\aS w G v u/\∀b,fG b v u<=fG b (.fF vs) (ρ x):=by
 generalize hx:ρ x=xv at ha;cases ha with
 |fF _ us hl hh=>
  have hi:i<vs.length:=(List.getElem?_eq_some_iff.1 hv).1;have qK:i<us.size:=by omega
  refine⟨us[i],?_,hh i v us[i] hv (by simp[qK]),λb=>?_⟩;simp only[execOp,ho,hx];simp[Instr.extract,qK];simp only[fG];exact v8 b vs us.toList i v us[i] hv (by simp[qK])
theorem rm{cs r:List AV}{k n:Nat}(h:cut cs k n=some r):r=(cs.drop k).take n/\k+n<=cs.length/\r.length=n:=by
 unfold cut at h;split at h;cases h;exact⟨rfl,by assumption,by simp;omega⟩;cases h
theorem yK{t:TypeId}{b:Bool}(h:nG P t=some b)(w:World):(isAgg t).run P w=.ok b w:=by
 unfold nG at h;split at h;rename_i hu;cases h;simp[isAgg,run_underlying hu];rename_i hu;cases h;simp[isAgg,run_underlying hu];rename_i d h1 h2 hu;cases h;cases d<;>simp_all [isAgg,run_underlying hu];cases h
theorem CP{agg:Bool}{r:List AV}{v:AV}(h:ck agg r=some v){xs:List Value}(hx:cn w G r xs) :
  ∃u,(if agg then .agg xs.toArray else xs.headD undef)=u/\aS w G v u/\(∀b,fG b v u=bU b r xs)/\(agg=false->∃c x,r=[c]/\xs=[x]/\v=c/\u=x):=by
 refine⟨_,rfl,?_⟩;unfold ck at h;cases agg with
 |true=>
  simp only[if_true,Option.some.injEq]at h;subst h;refine⟨.agg _ _ (by simpa using hx.1) λi c v hc hv=>hx.2 i c v hc (by simpa using hv),λb=>by simp[fG],by simp⟩
 |false=>
  simp only[Bool.false_eq_true,if_false]at h;split at h;rename_i c;cases h;match xs,hx with
  |[x],hx=>exact⟨hx.2 0 v x rfl rfl,λb=>by simp[bU],λ_=>⟨v,x,rfl,rfl,rfl,rfl⟩⟩|[],hx=>simp[cn]at hx|_::_::_,hx=>simp[cn]at hx
  cases h
theorem Xa(vs:Array Value)(off n:Nat):vs.extract off (off+n)=((vs.toList.drop off).take n).toArray:=by
 apply Array.ext';simp[Array.toList_extract,List.extract]
theorem Xb{t:TypeId}{x:Operand}{f:Nat}(ho:o.op=.field t x f){fs:Array Field}{fd:Field}(hu:P.underlying t=some (.struct fs))(hf:fs[f]?=some fd){off n:Nat}{agg:Bool}
  (afR:fd.offset=off)(hn:cy P fd.type n=true)(tF:nG P fd.type=some agg){cs r:List AV}{v:AV}(hc:cut cs off n=some r)(hv:ck agg r=some v)
  (ha:aS w G (.agg cs) (ρ x)):∃u,(execOp ρ o).run P w=.ok (.value u) w/\aS w G v u/\∀b,fG b v u<=fG b (.agg cs) (ρ x):=by
 generalize hx:ρ x=xv at ha;cases ha with
 |agg _ vs hl hh=>
  obtain⟨rfl,hle,hlen⟩:=rm hc;have hC:cn w G cs vs.toList:=⟨by simpa using hl,λi c v h1 h2=>hh i c v h1 (by simpa using h2)⟩;have hR:=(hC.drop off).take n;obtain⟨u,hu',h1,h2,h3⟩:=CP hv hR;refine⟨u,?_,h1,λb=>?_⟩;simp only[execOp,ho,hx];simp only[Instr.field,Sem.run_bind,run_underlying hu,Result.andThen_ok,hf,asAgg,Sem.run_pure,part,yK tF,afR];cases agg with
  |true=>
   simp only[if_true]at hu';subst hu';simp[dY hn,Xa]
  |false=>
   obtain⟨c,y,e1,e2,e3,e4⟩:=h3 rfl;have hy:vs[off]?=some y:=by
    have:=congrArg (·[0]?) e2;simp only[List.getElem?_take,List.getElem?_drop]at this;split at this;simpa using this;simp at this
   simp[hy,e4]
  rw[h2];simp only[fG];have a1:=Qh b n (cs.drop off) (vs.toList.drop off) (by simp;omega);have a2:=xm b off cs vs.toList (by simpa using hl);omega
theorem HT{place:Nat->Option (Nat×Nat)}:∀(ps:List (Nat×Value))(qs:List (Nat×Nat))(vs:List AV)(zero cs:List AV)(zc:Array Value),iO zero qs vs=some cs->cn w G zero zc.toList->
  cn w G vs (ps.map (·.2))->(∀(i:Nat) p q,ps[i]?=some p->qs[i]?=some q->place p.1=some q)->
  ∃cells,Instr.fill place zc ps=some cells/\cn w G cs cells.toList/\∀b,bU b cs cells.toList<=bU b zero zc.toList+bU b vs (ps.map (·.2))
 |[],qs,vs,zero,cs,zc,h,hz,hv,hp=>by
  cases vs with
  |nil=>
   cases qs with
   |nil=>simp[iO]at h;subst h;exact⟨zc,rfl,hz,λb=>by omega⟩|cons q qs=>simp[iO]at h
  |cons v vs=>simp[cn]at hv
 |p::ps,qs,vs,zero,cs,zc,h,hz,hv,hp=>by
  cases vs with
  |nil=>simp[cn]at hv|cons v vs=>
   cases qs with
   |nil=>simp[iO]at h|cons q qs=>
    obtain⟨off,n⟩:=q;simp only[iO]at h;split at h;rename_i hc;simp only[Bool.and_eq_true,decide_eq_true_eq]at hc;obtain⟨hcl,afR⟩:=hc;have Mh:=hp 0 p (off,n) rfl rfl;have hrv:aS w G v p.2:=hv.2 0 v p.2 rfl rfl;obtain⟨Mi,N3⟩:=hrv.cells;have eI:p.2.cells.size=n:=(by have:=Mi.1;simp at this;omega);have Sq:zc.size=zero.length:=(by have:=hz.1;simp at this;omega);have Qj:=Ms off p.2.cells.toList zc (by simp;omega);have Cq:cn w G (ah zero off v.cells) (ah zc.toList off p.2.cells.toList):=hz.ah Mi (by omega);have Fs:cn w G vs (ps.map (·.2)):=⟨by have:=hv.1;simpa using this,λi c x h1 h2=>hv.2 (i+1) c x (by simpa using h1) (by simpa using h2)⟩;have step:Instr.fill place zc (p::ps)=Instr.fill place (p.2.cells.zipIdx.foldl (λcs (c,j)=>cs.setIfInBounds (off+j) c) zc) ps:=by
     obtain⟨pi,pv⟩:=p;simp only[Instr.fill];rw[Mh];simp only;rw[if_neg (by simp at eI ⊢;omega)]
    simp only[Array.toArray_toList]at Qj;obtain⟨cells,e1,e2,e3⟩:=HT ps qs vs (ah zero off v.cells) cs _ h (by rw[Qj];exact Cq) Fs (λi p q h1 h2=>hp (i+1) p q (by simpa using h1) (by simpa using h2));refine⟨cells,step.trans e1,e2,λb=>?_⟩;have h3:=e3 b;rw[Qj]at h3;have h4:=rj b zero v.cells zc.toList p.2.cells.toList off hz.1 Mi.1 (by omega);have h5:=N3 b;simp only[List.map_cons,bU];omega;cases h
theorem BO{fs:Array Field}:∀{ps:List (Nat×Operand)}{qs:List (Nat×Nat)},ri P fs ps qs=true->ps.length=qs.length/\
  ∀(i:Nat) p q,ps[i]?=some p->qs[i]?=some q->∃f,fs[p.1]?=some f/\f.offset=q.1/\cy P f.type q.2=true
 |[],[],_=>⟨rfl,λi p q h _=>by simp at h⟩
 |(j,x)::ps,(off,n)::qs,h=>by
  simp only[ri,Bool.and_eq_true]at h;obtain⟨h1,h2⟩:=h;obtain⟨e1,e2⟩:=BO h2;refine⟨by simp[e1],λi p q hp hq=>?_⟩;cases i with
  |zero=>
   simp at hp hq;subst hp;subst hq;split at h1;rename_i f hf;simp only[Bool.and_eq_true,beq_iff_eq]at h1;exact⟨f,hf,h1.1,h1.2⟩;cases h1
  |succ i=>exact e2 i p q (by simpa using hp) (by simpa using hq)
 |[],_::_,h=>by simp[ri]at h|_::_,[],h=>by simp[ri]at h
theorem lV{t:TypeId}{zero:List AV}(h:oG P t zero=true)(w:World)(G:aQ) :
  ∃i z,P.info? t=some i/\i.zero=some z/\cn w G zero z.cells.toList/\(∀c∈zero,c.b9=true/\c.au=true)/\AV.aO zero=true:=by
 unfold oG at h;split at h;rename_i i hi;split at h;rename_i z hz;simp only[Bool.and_eq_true]at h;obtain⟨e1,e2,e3⟩:=zo w G h.1;exact⟨i,z,hi,hz,⟨e1,e2⟩,e3,h.2⟩;cases h;cases h
theorem Xc{t:TypeId}{parts:Array (Nat×Operand)}(ho:o.op=.build t parts){fs:Array Field}(hu:P.underlying t=some (.struct fs)){is:List TypeInfo}(Ft:fs.toList.mapM (λf=>P.info? f.type)=some is)
  {zero:List AV}{qs:List (Nat×Nat)}(hz:oG P t zero=true)(hp:ri P fs parts.toList qs=true){vs cs:List AV}(hc:iO zero qs vs=some cs)
  (hv:cn w G vs (parts.toList.map λp=>ρ p.2)):∃u,(execOp ρ o).run P w=.ok (.value u) w/\aS w G (.agg cs) u/\∀b,fG b (.agg cs) u<=bU b vs (parts.toList.map λp=>ρ p.2):=by
 obtain⟨i,z,hi,Sr,oo,J1,_⟩:=lV hz w G;obtain⟨Mh,hpp⟩:=BO hp;have Xd:fs.toList.mapM (λf=>(P.info? f.type).map λi=>(f.offset,i.size))=some (List.zipWith (λf i=>(f.offset,i.size)) fs.toList is)/\fs.toList.length=is.length/\∀(k:Nat) f j,fs.toList[k]?=some f->is[k]?=some j->P.info? f.type=some j:=by
  generalize fs.toList=l at Ft;induction l generalizing is with
  |nil=>simp at Ft;subst Ft;exact⟨rfl,rfl,λk f j h _=>by simp at h⟩|cons f l ih=>
   rw[List.mapM_cons]at Ft;simp only[bind,Option.bind_eq_some_iff,pure,Option.some.injEq]at Ft;obtain⟨j,hj,is',akt,rfl⟩:=Ft;obtain⟨a1,a2,a3⟩:=ih akt;refine⟨?_,by simp[a2],λk g j' h1 h2=>?_⟩;rw[List.mapM_cons,a1];simp[hj];cases k with
   |zero=>simp at h1 h2;subst h1;subst h2;exact hj|succ k=>simp at h1 h2;exact a3 k g j' h1 h2
 obtain⟨hm,hlen,aku⟩:=Xd;have HU:(parts.map λ(x:Nat×Operand)=>(x.1,ρ x.2)).toList.map (·.2)=parts.toList.map λp=>ρ p.2:=by simp[Function.comp_def]
 obtain⟨cells,e1,e2,e3⟩:=HT (place:=((List.zipWith (λ(f:Field) (i:TypeInfo)=>(f.offset,i.size)) fs.toList is).toArray[·]?)) (parts.map λ(x:Nat×Operand)=>(x.1,ρ x.2)).toList qs vs zero cs z.cells hc oo
  (by rw[HU];exact hv) (by
   intro k p q h1 h2;simp only[Array.toList_map,List.getElem?_map,Option.map_eq_some_iff]at h1;obtain⟨p',h1,rfl⟩:=h1;obtain⟨f,g1,g2,g3⟩:=hpp k p' q h1 h2;obtain⟨j,g4,g5,_⟩:=lG g3;have hf:fs.toList[p'.1]?=some f:=(by simpa using g1);have hj:is[p'.1]?=some j:=by
    have bw:p'.1<is.length:=(by rw[<-hlen];exact(List.getElem?_eq_some_iff.1 hf).1);have:=aku p'.1 f is[p'.1] hf (List.getElem?_eq_getElem bw);rw[g4]at this;cases this;exact List.getElem?_eq_getElem bw
   simp[List.getElem?_zipWith,hf,hj,g2,g5])
 have hb:P.built t (parts.map λ(x:Nat×Operand)=>(x.1,ρ x.2)).toList=some cells:=by
  unfold Program.built;rw[hi,hu];simp only[Sr,hm];exact e1
 refine⟨.agg cells,?_,.agg _ _ (by simpa using e2.1) λi c v h1 h2=>e2.2 i c v h1 (by simpa using h2),λb=>?_⟩;simp only[execOp,ho,Sem.run_bind];have:=run_build w t (parts.map λ(x:Nat×Operand)=>(x.1,ρ x.2)) cells hb;simp only[this,Result.andThen_ok,Sem.run_pure];have h1:=e3 b;have h2:bU b zero z.cells.toList=0:=dy b _ _ ((cA zero).2 λc hc=>(J1 c hc).1);rw[HU]at h1;simp only[fG];omega
end Ax
namespace Ax
open Go
variable {P:Program}{w:World}{G:aQ}{β:List mS}{ρ:Operand->Value}{o:Oper}
theorem lI(b off n:Nat):(⟨b,off,none⟩:Addr).add n=⟨b,off+n,none⟩:=by
 unfold Addr.add;split<;>simp_all
theorem J2{t:TypeId}{f:Nat}{fs:Array Field}{fd:Field}{i:TypeInfo}(hu:P.underlying t=some (.struct fs))(hf:fs[f]?=some fd)(hi:P.info? fd.type=some i)(hs:i.size≠0)(a:Addr)(w:World) :
  (Instr.fieldAt t (.pointer (some a)) f).run P w=.ok (.pointer (some (a.add fd.offset))) w:=by
 have hc:P.cellsOf fd.type≠0:=by simp[Program.cellsOf,hi,hs]
 simp[Instr.fieldAt,run_underlying hu,hf,Instr.sureAddr,fieldPlace,run_sizeOf w hi,hc]
theorem wg{t:TypeId}{x:Operand}{f:Nat}(ho:o.op=.fieldAddr t x f){fs:Array Field}{fd:Field}{i:TypeInfo}(hu:P.underlying t=some (.struct fs))(hf:fs[f]?=some fd)(hi:P.info? fd.type=some i)(hs:i.size≠0)
  {a:Addr}(hx:ρ x=.pointer (some a)):(execOp ρ o).run P w=.ok (.value (.pointer (some (a.add fd.offset)))) w:=by
 simp only[execOp,ho,hx,Sem.run_bind,J2 hu hf hi hs,Result.andThen_ok,Sem.run_pure]
theorem yg{p:AV}{v:Value}{off:Nat}{q:AV}(h:aS w G p v)
  (hq:(∃id b6 i k,p=.ptr id b6 i k/\q=.ptr id b6 i (k+off))\/(∃sz rows i k,p=.qm sz rows i k/\q=.qm sz rows i (k+off))) :
  ∃a,v=.pointer (some a)/\aS w G q (.pointer (some (a.add off))):=by
 rcases hq with⟨id,b6,i,k,rfl,rfl⟩|⟨sz,rows,i,k,rfl,rfl⟩;cases h with
 |ptr _ _ _ _ _ loc hp hl hv he=>
  obtain⟨a,rfl⟩:=hp;refine⟨a,rfl,.ptr _ _ _ _ _ loc ⟨_,rfl⟩ hl hv λe=>?_⟩;obtain⟨a',h1,h2⟩:=he e;cases h2;exact⟨a',h1,by rw[lI];congr 3;omega⟩
 cases h with
 |qm _ _ _ _ a cap hs=>
  refine⟨_,rfl,?_⟩;rw[lI];have:=aS.qm (w:=w) (G:=G) sz rows i (k+off) a cap hs;rw[show a.off+(i*sz+k)+off=a.off+(i*sz+(k+off)) by omega];exact this
theorem BP{t e:TypeId}{sz:Nat}(hu:P.underlying t=some (.slice e))(eI:cy P e sz=true){a:Addr}{len cap:Nat}{i:Int}(h0:0<=i)(h1:i<len)(w:World) :
  (Instr.indexAt t (.slice (some a) len cap) (.int .i64 i)).run P w=.ok (.pointer (some (a.add (i.toNat*sz)))) w:=by
 simp[Instr.indexAt,run_underlying hu,asIntOf,dY eI,h0,h1]
theorem J3{t e:TypeId}{x y:Operand}{sz:Nat}(ho:o.op=.indexAddr t x y)(hu:P.underlying t=some (.slice e))(eI:cy P e sz=true){st:ai}(hI:jn w G st){a:AV}{i:Int}{bx fH:aX}{st':ai}{r:eO}
  (h:aP 0 0 (.indexAddr sz) [.val a,.val (.int .i64 i)] st bx=some (r,st',fH))(ha:aS w G a (ρ x))(hy:ρ y=.int .i64 i) :
  st'=st/\fH=bx/\∃p u,r=.val p/\(execOp ρ o).run P w=.ok (.value u) w/\aS w G p u/\p.b9=true:=by
 have pure:∀(s:Nat) (rows:List (List AV)) (v:Value),aS w G (.dc s rows) v->ρ x=v->s=sz->0<=i->i<rows.length->
   ∃u,(execOp ρ o).run P w=.ok (.value u) w/\aS w G (.qm sz rows i.toNat 0) u:=by
  intro s rows v hv J0 hs h0 h1;subst hs;have Cp:=hv;cases hv with
  |dc _ _ a cap oF fI=>
   refine⟨_,?_,.qm _ rows i.toNat 0 a cap Cp⟩;simp only[execOp,ho,J0,hy,Sem.run_bind,BP hu eI h0 (by exact_mod_cast h1),Result.andThen_ok,Sem.run_pure];obtain⟨b,off,spot⟩:=a;simp only at oF;subst oF;rw[lI];simp
 simp only[aP]at h;split at h<;>try (cases h;done)
 rename_i s rows;split at h;rename_i hc;cases h;simp only[Bool.and_eq_true,decide_eq_true_eq]at hc;obtain⟨u,h1,h2⟩:=pure s rows _ ha rfl hc.1.1 hc.1.2 hc.2;exact⟨rfl,rfl,_,u,rfl,h1,h2,rfl⟩;cases h;rename_i s rows;split at h;rename_i hc;cases h;simp only[Bool.and_eq_true,decide_eq_true_eq]at hc;obtain⟨u,h1,h2⟩:=pure s rows _ ha.aa rfl hc.1.1 hc.1.2 hc.2;exact⟨rfl,rfl,_,u,rfl,h1,h2,rfl⟩;cases h;rename_i id b6;split at h;rename_i v s rows gi;split at h;rename_i hc;cases h;simp only[Bool.and_eq_true,decide_eq_true_eq]at hc;obtain⟨⟨⟨HV,hs⟩,h0⟩,h1⟩:=hc;subst HV;subst hs;obtain⟨loc,hl,So⟩:=hI.loc gi;obtain⟨BQ,zu,gY⟩:=So;generalize J0:ρ x=xv at ha;cases ha with
 |mu _ _ _ loc' hp pZ hv he=>
  rw[hl]at pZ;cases pZ;have hx:=he zu.symm;rcases gY.p0 with⟨_,tG,_⟩|⟨b,off,c,e',sd,fI,fj,hle,hlen,iC,dF⟩;subst tG;simp at h1;omega;rw[sd,gY.len]at hx;refine⟨rfl,rfl,_,_,rfl,?_,.ptr id v i.toNat 0 _ loc ⟨_,rfl⟩ hl (by omega) λ_=>⟨_,sd,rfl⟩,rfl⟩;simp only[execOp,ho,J0,hx,hy,Sem.run_bind,BP hu eI h0 h1,Result.andThen_ok,Sem.run_pure];rw[lI,gY.size];simp
 cases h;cases h
theorem Xe{t:TypeId}{x y:Operand}(ho:o.op=.index t x y)(hu:P.underlying t=some .string){s:List UInt8}{i:Int}{b:UInt8}(h0:0<=i)(hb:s[i.toNat]?=some b)(ha:aS w G (.str s) (ρ x))(hy:ρ y=.int .i64 i) :
  (execOp ρ o).run P w=.ok (.value (.int .u8 b.toNat)) w:=by
 obtain⟨s',hx,rfl⟩:=ha.mN;have nD:s'[i.toNat]?=some b:=by
  have bw:i.toNat<s'.size:=by have:=(List.getElem?_eq_some_iff.1 hb).1;simpa using this
  have hd:s'.data[i.toNat]?=some b:=by simpa using hb
  have e:s'[i.toNat]?=s'.data[i.toNat]?:=rfl;rw[e];exact hd
 simp only[execOp,ho,hx,hy,Sem.run_bind];simp[Instr.index,run_underlying hu,asIntOf,h0,nD]
theorem J4{st:ai}(hI:jn w G st){p:AV}{v:Value}{n:Nat}{cs:List AV}(hr:jD st p n=some cs)(hp:aS w G p v) :
  ∃b off xs,v=.pointer (some ⟨b,off,none⟩)/\xs.length=n/\cn w G cs xs/\∀(j:Nat) x,xs[j]?=some x->w.cell? ⟨b,off+j,none⟩=some x:=by
 have build:∀(r:List AV) (k b off:Nat),cut r k n=some cs->(∀(j:Nat) c,r[j]?=some c->∃x,w.cell? ⟨b,off+j,none⟩=some x/\aS w G c x)->
   ∃xs:List Value,xs.length=n/\cn w G cs xs/\∀(j:Nat) x,xs[j]?=some x->w.cell? ⟨b,off+k+j,none⟩=some x:=by
  intro r k b off hc oA;obtain⟨rfl,hle,hlen⟩:=rm hc;refine⟨(List.range n).map λj=>(w.cell? ⟨b,off+k+j,none⟩).getD undef,by simp,⟨by simp;omega,λj c x h1 h2=>?_⟩,λj x h=>?_⟩;rw[List.getElem?_take]at h1;split at h1;rw[List.getElem?_drop]at h1;obtain⟨y,e1,e2⟩:=oA _ c h1;simp only[List.getElem?_map,Option.map_eq_some_iff]at h2;obtain⟨j',h3,rfl⟩:=h2;have:j'=j:=by
   rw[List.getElem?_range (by assumption)]at h3;simpa using h3.symm
  subst this;rw[show off+k+j'=off+(k+j') by omega,e1];exact e2;cases h1;simp only[List.getElem?_map,Option.map_eq_some_iff]at h;obtain⟨j',h3,rfl⟩:=h;have hj:j<n:=by
   have:=(List.getElem?_eq_some_iff.1 h3).1;simpa using this
  have:j'=j:=by
   rw[List.getElem?_range hj]at h3;simpa using h3.symm
  subst this;have bw:k+j'<r.length:=by omega
  obtain⟨y,e1,e2⟩:=oA (k+j') r[k+j'] (List.getElem?_eq_getElem bw);rw[show off+k+j'=off+(k+j') by omega,e1]
  rfl
 unfold jD at hr;split at hr;rename_i id b6 i k;split at hr;rename_i ve sz rows gi;split at hr;rename_i HV;subst HV;split at hr;rename_i r dj;obtain⟨loc,hl,BQ,zu,gY⟩:=hI.loc gi;cases hp with
 |ptr _ _ _ _ _ loc' hpp pZ hv he=>
  rw[hl]at pZ;cases pZ;obtain⟨a,sd,rfl⟩:=he zu.symm;rcases gY.p0 with⟨_,tG,_⟩|⟨b,off,c,e',Mu,fI,fj,hle,hlen,iC,dF⟩;subst tG;simp at dj;rw[Mu]at sd;cases sd;obtain⟨xs,h1,h2,h3⟩:=build r k b (off+i*sz) hr (λj c hc=>by
   obtain⟨x,e1,e2⟩:=gY.cell dF i r j c dj hc;exact⟨x,by rw[show off+i*sz+j=off+(i*sz+j) by omega];exact e1,e2⟩)
  refine⟨b,off+(i*sz+k),xs,by rw[gY.size],h1,h2,λj x hx=>?_⟩;rw[show off+(i*sz+k)+j=off+i*sz+k+j by omega];exact h3 j x hx
 cases hr;cases hr;cases hr;rename_i sz rows i k;split at hr;rename_i r dj;cases hp with
 |qm _ _ _ _ a cap hs=>
  cases hs with
  |dc _ _ _ _ oF fI cI iz pC w9 hc BR=>
   obtain⟨xs,h1,h2,h3⟩:=build r k a.block (a.off+i*sz) hr (λj c Wu=>by
    obtain⟨_,x,e1⟩:=hc i r j c dj Wu;exact⟨x,by rw[show a.off+i*sz+j=a.off+(i*sz+j) by omega];exact e1,BR i r j c x dj Wu e1⟩)
   refine⟨a.block,a.off+(i*sz+k),xs,rfl,h1,h2,λj x hx=>?_⟩;rw[show a.off+(i*sz+k)+j=a.off+i*sz+k+j by omega];exact h3 j x hx
 cases hr;cases hr
theorem Dz{t:TypeId}{n:Nat}{agg:Bool}(hn:cy P t n=true)(tF:nG P t=some agg){b off:Nat}{xs:List Value}(hlen:xs.length=n)(mz:agg=false->n=1)
  (hc:∀(j:Nat) x,xs[j]?=some x->w.cell? ⟨b,off+j,none⟩=some x) :
  (Instr.loadAt t (.pointer (some ⟨b,off,none⟩))).run P w=.ok (if agg then .agg xs.toArray else xs.headD undef) w:=by
 cases agg with
 |true=>
  have:=run_loadCells_list (P:=P) w ⟨b,off,none⟩ xs (λj v h=>by rw[lI];exact hc j v h);rw[hlen]at this;simp[Instr.loadAt,Instr.sureAddr,loadVar,yK tF,dY hn,this]
 |false=>
  match xs,hlen,mz rfl with
  |[x],_,_=>
   have:=hc 0 x rfl;simp only[Nat.add_zero]at this;simp[Instr.loadAt,Instr.sureAddr,loadVar,yK tF,this]
  |[],h,h1=>simp at h;omega|_::_::_,h,h1=>simp at h;omega
theorem cn.aa{as:List AV}{xs:List Value}(h:cn w G as xs):cn w G (AV.cJ as) xs:=by
 refine⟨by rw[nF];exact h.1,λi c v hc hv=>?_⟩;rw[xd]at hc;simp only[Option.map_eq_some_iff]at hc;obtain⟨c',h1,rfl⟩:=hc;exact(h.2 i c' v h1 hv).aa
theorem HW{t:TypeId}{x:Operand}{n:Nat}{agg:Bool}(ho:o.op=.load t x)(hn:cy P t n=true)(tF:nG P t=some agg)(mz:agg=false->n=1){b off:Nat}{xs:List Value}{cs:List AV}{v:AV}
  (hx:ρ x=.pointer (some ⟨b,off,none⟩))(hlen:xs.length=n)(hC:cn w G cs xs)(hc:∀(j:Nat) y,xs[j]?=some y->w.cell? ⟨b,off+j,none⟩=some y)(hv:ck agg cs=some v) :
  ∃u,(execOp ρ o).run P w=.ok (.value u) w/\aS w G v u/\∀d,fG d v u=bU d cs xs:=by
 obtain⟨u,hu,h1,h2,_⟩:=CP hv hC;refine⟨u,?_,h1,h2⟩;simp only[execOp,ho,hx,Sem.run_bind,Dz hn tF hlen mz hc,Result.andThen_ok,Sem.run_pure,hu]
theorem Mw{f:FuncId}{first lC:Array Operand}(hf:f<100000)(ho:o.op=.makeFunc (.func f) first lC){vs:List AV}(hv:cn w G vs ((first.toList++lC.toList).map ρ)) :
  (execOp ρ o).run P w=.ok (.value (.func (.func f) (first.map ρ) (lC.map ρ))) w/\
   aS w G (.fn f (AV.cJ (vs.take first.size)) (AV.cJ (vs.drop first.size))) (.func (.func f) (first.map ρ) (lC.map ρ)):=by
 refine⟨by simp only[execOp,ho,Sem.run_bind];rfl,?_⟩;have h1:=(hv.take first.size).aa;have h2:=(hv.drop first.size).aa;rw[List.map_append]at h1 h2;rw[List.take_left' (by simp)]at h1;rw[List.drop_left' (by simp)]at h2;refine .fn f _ _ _ _ (by simpa using h1.1) (by simpa using h2.1) ⟨gf _,gf _,hf⟩ (λi c v e1 e2=>h1.2 i c v e1 ?_) (λi c v e1 e2=>h2.2 i c v e1 ?_);simpa using e2;simpa using e2
end Ax
namespace Ax
open Go
variable {P:Program}{w:World}{G:aQ}{β:List mS}{ρ:Operand->Value}{o:Oper}
def yL(ρ:Operand->Value)(x:Option Operand)(abp a:Int):Prop:=(x=none/\a=abp)\/∃y,x=some y/\ρ y=.int .i64 a
theorem nH{i:Int}{y:Nat}{c:BoundsCode}(h0:0<=i)(h1:i<=y)(w:World):(Instr.sliceBound (.int .i64 i) y c).run P w=.ok i.toNat w:=by
 simp[Instr.sliceBound,asIntOf,h0,h1]
theorem kG{vZ:Bool}{len cap:Nat}{lo hi:Option Operand}{a b:Int}(ha:yL ρ lo 0 a)(hb:yL ρ hi len b)(h0:0<=a)(h1:a<=b)(h2:b<=cap)(w:World) :
  (Instr.sliceBounds vZ len cap (lo.map ρ) (hi.map ρ) none).run P w=.ok (a.toNat,b.toNat,cap) w:=by
 rcases ha with⟨rfl,rfl⟩|⟨y,rfl,hy⟩<;>rcases hb with⟨rfl,rfl⟩|⟨z,rfl,hz⟩
 simp[Instr.sliceBounds];simp[Instr.sliceBounds,hz,nH (by omega:(0:Int)<=b) h2];simp[Instr.sliceBounds,hy,nH h0 h1];have hbn:((b.toNat:Nat):Int)=b:=by omega
 simp[Instr.sliceBounds,hy,hz,nH (by omega:(0:Int)<=b) h2,nH h0 (by rw[hbn];exact h1)]
theorem Mx{t:TypeId}{x:Operand}{lo hi:Option Operand}(ho:o.op=.slice t x lo hi none)(hu:P.underlying t=some .string){s:List UInt8}{a b:Int}(hx:aS w G (.str s) (ρ x))
  (ha:yL ρ lo 0 a)(hb:yL ρ hi s.length b)(h0:0<=a)(h1:a<=b)(h2:b<=s.length) :
  ∃u,(execOp ρ o).run P w=.ok (.value u) w/\aS w G (.str ((s.take b.toNat).drop a.toNat)) u:=by
 obtain⟨s',hx',rfl⟩:=hx.mN;have hl:s'.data.toList.length=s'.size:=by simp
 rw[hl]at hb h2;refine⟨.string (s'.extract a.toNat b.toNat),?_,.str _ _ ?_⟩;simp only[execOp,ho,hx',Sem.run_bind];simp[Instr.sliceAt,Instr.slice,run_underlying hu,kG ha hb h0 h1 h2];rw[ByteArray.data_extract,Array.toList_extract];simp only[List.extract];rw[List.drop_take]
theorem Qk{sz:Nat}{rows:List (List AV)}(h:bV sz rows=true)(n m:Nat):bV sz ((rows.take n).drop m)=true:=by
 simp only[bV,List.all_eq_true]at h ⊢;exact λr hr=>h r (List.mem_of_mem_take (List.mem_of_mem_drop hr))
theorem N4{rows:List (List AV)}{n m i:Nat}{r:List AV}(h:((rows.take n).drop m)[i]?=some r):rows[m+i]?=some r:=by
 rw[List.getElem?_drop,List.getElem?_take]at h;split at h;exact h;cases h
theorem Xf{sz:Nat}{rows:List (List AV)}{a:Addr}{len cap:Nat}(h:aS w G (.dc sz rows) (.slice (some a) len cap)){lo hi:Nat}(h1:lo<=hi)(h2:hi<=rows.length) :
  len=rows.length/\rows.length<=cap/\aS w G (.dc sz ((rows.take hi).drop lo)) (.slice (if cap=lo then some a else some (a.add (lo*sz))) (hi-lo) (cap-lo)):=by
 cases h with
 |dc _ _ _ _ oF fI cI iz pC w9 hc hr=>
  refine⟨rfl,fI,?_⟩;have hlen:((rows.take hi).drop lo).length=hi-lo:=by simp;omega
  have AT:∀r∈(rows.take hi).drop lo,r∈rows:=λr hr=>List.mem_of_mem_take (List.mem_of_mem_drop hr);have Ql:a.add (lo*sz)=⟨a.block,a.off+lo*sz,none⟩:=by
   obtain⟨b,off,spot⟩:=a;simp only at oF;subst oF;exact lI _ _ _
  split;rename_i hcl;have:(rows.take hi).drop lo=[]:=by apply List.eq_nil_of_length_eq_zero;omega
  rw[this];have h0:hi-lo=([]:List (List AV)).length:=by simp;omega
  rw[h0];exact .dc _ _ a _ oF (by simp) (by simp[bV]) (by simp) (by simp) (by simp) (λi r j c h _=>by simp at h) (λi r j c v h _=>by simp at h);rw[<-hlen];refine .dc _ _ _ _ (by rw[Ql]) (by omega) (Qk cI _ _) (λr h=>iz r (AT r h)) (λr h=>pC r (AT r h)) (λr h=>w9 r (AT r h)) (λi r j c e1 e2=>?_) (λi r j c v e1 e2 e3=>?_);have:=hc _ r j c (N4 e1) e2;rw[Ql];simp only;rw[show a.off+lo*sz+(i*sz+j)=a.off+((lo+i)*sz+j) by rw[Nat.add_mul];omega];exact this;rw[Ql]at e3;simp only at e3;rw[show a.off+lo*sz+(i*sz+j)=a.off+((lo+i)*sz+j) by rw[Nat.add_mul];omega]at e3;exact hr _ r j c v (N4 e1) e2 e3
theorem DA{t e:TypeId}{x:Operand}{lo hi:Option Operand}(ho:o.op=.slice t x lo hi none)(hu:P.underlying t=some (.slice e)){sz:Nat}(eI:cy P e sz=true){rows:List (List AV)}{a b:Int}(hx:aS w G (.dc sz rows) (ρ x))
  (ha:yL ρ lo 0 a)(hb:yL ρ hi rows.length b)(h0:0<=a)(h1:a<=b)(h2:b<=rows.length) :
  ∃u,(execOp ρ o).run P w=.ok (.value u) w/\aS w G (.dc sz ((rows.take b.toNat).drop a.toNat)) u:=by
 have hx0:=hx;generalize J0:ρ x=xv at hx;have hs:∃ad len cap,xv=.slice (some ad) len cap:=by cases hx;exact⟨_,_,_,rfl⟩
 obtain⟨ad,len,cap,rfl⟩:=hs;obtain⟨e1,e2,e3⟩:=Xf hx (lo:=a.toNat) (hi:=b.toNat) (by omega) (by omega);subst e1;refine⟨_,?_,e3⟩;simp only[execOp,ho,J0,Sem.run_bind];simp only[Instr.sliceAt,Sem.run_bind,run_underlying hu,Result.andThen_ok,Instr.slice,Option.map_none,kG ha hb h0 h1 (by omega:b<=(cap:Int)),dY eI,Sem.run_pure];by_cases hc:cap=a.toNat<;>simp[hc]
theorem DB{t e:TypeId}{x:Operand}{lo hi mx:Option Operand}(ho:o.op=.slice t x lo hi mx)(hu:P.underlying t=some (.slice e)){sz:Nat}(eI:cy P e sz=true)(hx:aS w G .U (ρ x))
  (ha:yL ρ lo 0 0)(hb:yL ρ hi 0 0)(hm:mx=none\/∃z,mx=some z/\hi.isSome=true/\ρ z=.int .i64 0) :
  (execOp ρ o).run P w=.ok (.value (.slice none 0 0)) w:=by
 generalize J0:ρ x=xv at hx;cases hx;simp only[execOp,ho,J0,Sem.run_bind];rcases hm with rfl|⟨z,rfl,hh,hz⟩;have nD:yL ρ hi ((0:Nat):Int) 0:=hb;simp only[Instr.sliceAt,Sem.run_bind,run_underlying hu,Result.andThen_ok,Instr.slice,Option.map_none,kG (len:=0) (cap:=0) ha nD (by omega) (by omega) (by simp),dY eI,Sem.run_pure];simp;have key:(Instr.sliceBounds true 0 0 (lo.map ρ) (hi.map ρ) (some (ρ z))).run P w=.ok (0,0,0) w:=by
  rcases ha with⟨rfl,_⟩|⟨y,rfl,hy⟩<;>rcases hb with⟨rfl,_⟩|⟨y',rfl,hy'⟩
  simp at hh;simp[Instr.sliceBounds,hz,hy',Instr.sliceBound,asIntOf];simp at hh;simp[Instr.sliceBounds,hz,hy,hy',Instr.sliceBound,asIntOf]
 simp only[Instr.sliceAt,Sem.run_bind,run_underlying hu,Result.andThen_ok,Instr.slice,Option.map_some,key,dY eI,Sem.run_pure];simp
theorem BS{t e:TypeId}{x:Operand}{lo hi mx:Option Operand}(ho:o.op=.slice t x lo hi mx)(hu:P.underlying t=some (.slice e)){sz:Nat}(eI:cy P e sz=true)(hx:aS w G .lU (ρ x))
  (ha:yL ρ lo 0 0)(hb:yL ρ hi 0 0)(hm:mx=none\/∃z,mx=some z/\hi.isSome=true/\ρ z=.int .i64 0) :
  ∃u,(execOp ρ o).run P w=.ok (.value u) w/\aS w G .lU u:=by
 generalize J0:ρ x=xv at hx;obtain⟨ad,rfl⟩:∃ad,xv=.slice (some ad) 0 0:=by cases hx;exact⟨_,rfl⟩
 refine⟨_,?_,.lU ad⟩;simp only[execOp,ho,J0,Sem.run_bind];rcases hm with rfl|⟨z,rfl,hh,hz⟩;have nD:yL ρ hi ((0:Nat):Int) 0:=hb;simp only[Instr.sliceAt,Sem.run_bind,run_underlying hu,Result.andThen_ok,Instr.slice,Option.map_none,kG (len:=0) (cap:=0) ha nD (by omega) (by omega) (by simp),dY eI,Sem.run_pure];simp;have key:(Instr.sliceBounds true 0 0 (lo.map ρ) (hi.map ρ) (some (ρ z))).run P w=.ok (0,0,0) w:=by
  rcases ha with⟨rfl,_⟩|⟨y,rfl,hy⟩<;>rcases hb with⟨rfl,_⟩|⟨y',rfl,hy'⟩
  simp at hh;simp[Instr.sliceBounds,hz,hy',Instr.sliceBound,asIntOf];simp at hh;simp[Instr.sliceBounds,hz,hy,hy',Instr.sliceBound,asIntOf]
 simp only[Instr.sliceAt,Sem.run_bind,run_underlying hu,Result.andThen_ok,Instr.slice,Option.map_some,key,dY eI,Sem.run_pure];simp
theorem DC{t e:TypeId}{x z:Operand}{lo hi:Option Operand}(ho:o.op=.slice t x lo hi (some z))(hu:P.underlying t=some (.slice e)){sz s:Nat}(eI:cy P e sz=true){rows:List (List AV)}(hx:aS w G (.dc s rows) (ρ x))
  (ha:yL ρ lo 0 0)(hb:yL ρ hi rows.length 0)(hh:hi.isSome=true)(hz:ρ z=.int .i64 0) :
  ∃u,(execOp ρ o).run P w=.ok (.value u) w/\aS w G .lU u:=by
 generalize J0:ρ x=xv at hx;have hs:∃ad len cap,xv=.slice (some ad) len cap:=by cases hx;exact⟨_,_,_,rfl⟩
 obtain⟨ad,len,cap,rfl⟩:=hs;refine⟨_,?_,.lU ad⟩;have key:(Instr.sliceBounds true len cap (lo.map ρ) (hi.map ρ) (some (ρ z))).run P w=.ok (0,0,0) w:=by
  rcases ha with⟨rfl,_⟩|⟨y,rfl,hy⟩<;>rcases hb with⟨rfl,_⟩|⟨y',rfl,hy'⟩
  simp at hh;simp[Instr.sliceBounds,hz,hy',Instr.sliceBound,asIntOf];simp at hh;simp[Instr.sliceBounds,hz,hy,hy',Instr.sliceBound,asIntOf]
 simp only[execOp,ho,J0,Sem.run_bind];simp only[Instr.sliceAt,Sem.run_bind,run_underlying hu,Result.andThen_ok,Instr.slice,Option.map_some,key,dY eI,Sem.run_pure];simp
theorem run_checkKey{t:TypeId}{kk:SK}(ht:pD P t kk=true)(b:Bool)(n:Nat)(v:Value)(w:World):(Instr.checkKey b (n+1) t v).run P w=.ok () w:=by
 unfold pD at ht;cases kk<;>simp only at ht<;>split at ht<;>(try cases ht);all_goals (rename_i hu;simp[Instr.checkKey,run_underlying hu])
def yM(w:World)(G:aQ)(es:List (AV×AV))(fs:List MapEntry):Prop:=
 fs.length=es.length/\∀(i:Nat) k v e,es[i]?=some (k,v)->fs[i]?=some e->aS w G k e.key/\aS w G v e.val/\v.b9=true/\k.b9=true
theorem yM.tail{x:AV×AV}{es:List (AV×AV)}{f:MapEntry}{fs:List MapEntry}(h:yM w G (x::es) (f::fs)):yM w G es fs:=
 ⟨by have:=h.1;simpa using this,λi k v e h1 h2=>h.2 (i+1) k v e (by simpa using h1) (by simpa using h2)⟩
theorem uJ{t:TypeId}{d:TypeDesc}{kk:SK}(ht:pD P t kk=true)(hu:P.underlying t=some d){a b:AV}{x y:Value}{r:Bool}(h:Fp kk a b=some r)(ha:aS w G a x)(hb:aS w G b y):Instr.sameNow d x y=some r:=by
 unfold Fp at h;split at h;cases h;rw[ha.jL,hb.jL];simp only[pD,hu]at ht;split at ht;rename_i hd;cases hd;rfl;cases ht;split at h;rename_i k p l q hk;cases h;subst hk;rw[ha.fO,hb.fO];simp only[pD,hu]at ht;split at ht;rename_i hd;cases hd;simp[Instr.sameNow];cases ht;cases h;cases h;obtain⟨s,rfl,rfl⟩:=ha.mN;obtain⟨s',rfl,rfl⟩:=hb.mN;simp only[pD,hu]at ht;split at ht;rename_i hd;cases hd;simp only[Instr.sameNow,Option.some.injEq];rw[beq_toListBytes,ByteArray.toList_eq,ByteArray.toList_eq];cases ht;cases h
theorem uK{t:TypeId}{d:TypeDesc}{kk:SK}(ht:pD P t kk=true)(hu:P.underlying t=some d){k:AV}{x:Value}(hk:aS w G k x):∀(es:List (AV×AV))(fs:List MapEntry)(i:Nat)(r:Option AV),
  yM w G es fs->sE kk k es=some r->∃q,Instr.findNow d x fs i=some q/\
   (match r with
    |none=>q=none|some v=>∃j e,q=some (i+j,e.val)/\fs[j]?=some e/\aS w G v e.val/\v.b9=true)
 |[],[],i,r,_,h=>by simp[sE]at h;subst h;exact⟨none,rfl,rfl⟩|[],_::_,_,_,h,_=>by simp[yM]at h|_::_,[],_,_,h,_=>by simp[yM]at h|(a,v)::es,f::fs,i,r,hM,h=>by
  obtain⟨h1,h2,h3,_⟩:=hM.2 0 a v f rfl rfl;simp only[sE]at h;split at h;rename_i he;cases h;exact⟨some (i,f.val),by simp[Instr.findNow,uJ ht hu he hk h1],0,f,rfl,rfl,h2,h3⟩;rename_i he;obtain⟨q,e1,e2⟩:=uK ht hu hk es fs (i+1) r hM.tail h;refine⟨q,by simp[Instr.findNow,uJ ht hu he hk h1,e1],?_⟩;cases r with
  |none=>exact e2|some v'=>
   obtain⟨j,e,g1,g2,g3⟩:=e2;exact⟨j+1,e,by rw[g1,show i+1+j=i+(j+1) by omega],by simpa using g2,g3⟩
  cases h
theorem run_findKey{t:TypeId}{kk:SK}(ht:pD P t kk=true){k:AV}{x:Value}(hk:aS w G k x){es:List (AV×AV)}{fs:List MapEntry}{r:Option AV}(hM:yM w G es fs)(hf:sE kk k es=some r)(w':World) :
  ∃q,(Instr.findKey t x fs).run P w'=.ok q w'/\
   (match r with
    |none=>q=none|some v=>∃j e,q=some (j,e.val)/\fs[j]?=some e/\aS w G v e.val/\v.b9=true):=by
 have hu:∃d,P.underlying t=some d:=by
  unfold pD at ht;cases kk<;>simp only at ht<;>split at ht<;>(try cases ht)<;>exact⟨_,by assumption⟩
 obtain⟨d,hu⟩:=hu;obtain⟨q,e1,e2⟩:=uK ht hu hk es fs 0 r hM hf;refine⟨q,by simp[Instr.findKey,run_underlying hu,e1],?_⟩;cases r with
 |none=>exact e2|some v=>obtain⟨j,e,g1,g2⟩:=e2;exact⟨j,e,by simpa using g1,g2⟩
theorem Ss{t kt et:TypeId}{m k:Operand}{ok:Bool}(ho:o.op=.lookup t m k ok)(hu:P.underlying t=some (.map kt et)){kk:SK}(ht:pD P kt kk=true){ie:TypeInfo}{z:Value}(hie:P.info? et=some ie)(hz:ie.zero=some z){zero:AV}(N5:xh z zero=true)
  {st:ai}(hI:jn w G st){am ak:AV}{es:List (AV×AV)}(mO:(am=.fU/\es=[])\/∃id,am=.map id/\st[id]?=some (.map es)){r:Option AV}(hf:sE kk ak es=some r)(hm:aS w G am (ρ m))(hk:aS w G ak (ρ k)) :
  ∃u,(execOp ρ o).run P w=.ok (.value u) w/\aS w G (if ok then .fF [r.getD zero,.bool r.isSome] else r.getD zero) u/\(r.getD zero).b9=true:=by
 obtain⟨hz1,Qm,_⟩:=yI N5 w G;have hzv:(zeroValue et).run P w=.ok z w:=by simp[zeroValue,typeInfo,hie,hz]
 have two:∀(v:AV) (x:Value) (b:Bool),aS w G v x->aS w G (if ok then .fF [v,.bool b] else v) (if ok=true then Value.tuple #[x,.bool b] else x):=by
  intro v x b hv;cases ok;exact hv;refine .fF _ _ rfl λi c y h1 h2=>?_;match i with
  |0=>simp at h1 h2;subst h1;subst h2;exact hv|1=>simp at h1 h2;subst h1;subst h2;exact .bool _|i+2=>simp at h1
 have mM:∀(fs:Array MapEntry),yM w G es fs.toList->∃x b,aS w G (r.getD zero) x/\b=r.isSome/\(r.getD zero).b9=true/\∃q,(Instr.findKey kt (ρ k) fs.toList).run P w=.ok q w/\((∃j,q=some (j,x)/\b=true)\/(q=none/\x=z/\b=false)):=by
  intro fs hM;obtain⟨q,e1,e2⟩:=run_findKey ht hk hM hf w;cases r with
  |none=>exact⟨z,false,hz1,rfl,Qm,q,e1,.inr ⟨e2,rfl,rfl⟩⟩|some v=>
   obtain⟨j,e,g1,g2,g3,g4⟩:=e2;exact⟨e.val,true,g3,rfl,g4,q,e1,.inl ⟨j,g1,rfl⟩⟩
 rcases mO with⟨rfl,rfl⟩|⟨id,rfl,gi⟩;generalize hmv:ρ m=mv at hm;cases hm;obtain⟨x,b,h1,rfl,h3,q,h4,h5⟩:=mM #[] ⟨rfl,λi k v e h _=>by simp at h⟩;refine⟨_,?_,two _ _ _ h1,h3⟩;have hck:=run_checkKey (w:=w) ht (#[]:Array MapEntry).isEmpty 9999 (ρ k);simp only[execOp,ho,hmv,Sem.run_bind];simp only[Instr.lookup,Sem.run_bind,run_underlying hu,Result.andThen_ok,Sem.run_pure,hck,h4];rcases h5 with⟨j,rfl,hb⟩|⟨rfl,rfl,hb⟩;simp[hb];simp[hb,hzv];generalize hmv:ρ m=mv at hm;obtain⟨loc,hl,So⟩:=hI.loc gi;cases hm with
 |map _ loc' bk pZ BQ nD=>
  rw[hl]at pZ;cases pZ;obtain⟨g1,g2,b0,r7,clock,g3,g4,g5,g6,g7⟩:=So;rw[nD]at g3;cases g3;obtain⟨x,b,h1,rfl,h3,q,h4,h5⟩:=mM r7 ⟨by simpa using g6,λi k v e e1 e2=>g7 i k v e e1 (by simpa using e2)⟩;refine⟨_,?_,two _ _ _ h1,h3⟩;have hck:=run_checkKey (w:=w) ht r7.isEmpty 9999 (ρ k);have Su:(getObj bk).run P w=.ok (.map r7 clock) w:=by simp[getObj,Sem.run,g4]
  simp only[execOp,ho,hmv,Sem.run_bind];simp only[Instr.lookup,Sem.run_bind,run_underlying hu,Result.andThen_ok,Sem.run_pure,Su,hck,h4];rcases h5 with⟨j,rfl,hb⟩|⟨rfl,rfl,hb⟩;simp[hb];simp[hb,hzv]
end Ax
namespace Ax
open Go
variable {P:Program}{w w':World}{G G':aQ}{β:List mS}
def lB.jK(l:lB):Option Nat:=if l.cap=0 then none else l.a.map (·.block)
def fL(b:Nat):List (List AV)->List (List Value)->Nat
 |r::rs,x::xs=>bU b r x+fL b rs xs|_,_=>0
def iJ(b:Nat)(loc:lB):fq->Nat
 |.rows _ _ rows=>(if loc.jK=some b then 1 else 0)+fL b rows loc.vals|.map _=>if loc.jK=some b then 1 else 0
def cj(b:Nat):List lB->List fq->Nat
 |l::ls,o::st=>iJ b l o+cj b ls st|_,_=>0
def fR(b:Nat):List mS->List (List AV)->Nat
 |g::β,r::bx=>(if g.jK=some b then 1 else 0)+bU b r g.vals+fR b β bx|_,_=>0
theorem xq(b:Nat):∀(rs:List (List AV))(xs:List (List Value))(i:Nat) r x,rs[i]?=some r->xs[i]?=some x->bU b r x<=fL b rs xs
 |[],_,_,_,_,h,_=>by simp at h|_::_,[],_,_,_,_,h=>by simp at h|r::rs,x::xs,0,r',x',h,k=>by simp at h k;subst h;subst k;simp only[fL];omega|r::rs,x::xs,i+1,r',x',h,k=>by
  have:=xq b rs xs i r' x' (by simpa using h) (by simpa using k);simp only[fL];omega
theorem tY(b:Nat):∀(rs:List (List AV))(xs:List (List Value))(i:Nat) r x r' x',rs[i]?=some r->xs[i]?=some x->
  fL b (rs.set i r') (xs.set i x')+bU b r x=fL b rs xs+bU b r' x'
 |[],_,_,_,_,_,_,h,_=>by simp at h|_::_,[],_,_,_,_,_,_,h=>by simp at h|r::rs,x::xs,0,r1,x1,r',x',h,k=>by simp at h k;subst h;subst k;simp only[List.set_cons_zero,fL];omega|r::rs,x::xs,i+1,r1,x1,r',x',h,k=>by
  have:=tY b rs xs i r1 x1 r' x' (by simpa using h) (by simpa using k);simp only[List.set_cons_succ,fL];omega
theorem BT(b:Nat):∀(rs:List (List AV))(xs:List (List Value)),(∀r∈rs,AV.dN r=true)->fL b rs xs=0
 |[],_,_=>by simp[fL]|_::_,[],_=>by simp[fL]|r::rs,x::xs,h=>by
  simp only[fL,dy b r x (h r (by simp)),BT b rs xs λr' hr=>h r' (by simp[hr])]
theorem nI(b:Nat):∀(ls:List lB)(st:List fq)(i:Nat) l o,ls[i]?=some l->st[i]?=some o->iJ b l o<=cj b ls st
 |[],_,_,_,_,h,_=>by simp at h|_::_,[],_,_,_,_,h=>by simp at h|l::ls,o::st,0,l',o',h,k=>by simp at h k;subst h;subst k;simp only[cj];omega|l::ls,o::st,i+1,l',o',h,k=>by
  have:=nI b ls st i l' o' (by simpa using h) (by simpa using k);simp only[cj];omega
theorem J5(b:Nat):∀(ls:List lB)(st:List fq)(i j:Nat) l o l' o',i≠j->ls[i]?=some l->st[i]?=some o->ls[j]?=some l'->st[j]?=some o'->iJ b l o+iJ b l' o'<=cj b ls st
 |[],_,_,_,_,_,_,_,_,h,_,_,_=>by simp at h|_::_,[],_,_,_,_,_,_,_,_,h,_,_=>by simp at h|l::ls,o::st,0,0,_,_,_,_,h,_,_,_,_=>absurd rfl h|l::ls,o::st,0,j+1,l1,o1,l2,o2,_,h1,h2,h3,h4=>by
  simp at h1 h2;subst h1;subst h2;have:=nI b ls st j l2 o2 (by simpa using h3) (by simpa using h4);simp only[cj];omega
 |l::ls,o::st,i+1,0,l1,o1,l2,o2,_,h1,h2,h3,h4=>by
  simp at h3 h4;subst h3;subst h4;have:=nI b ls st i l1 o1 (by simpa using h1) (by simpa using h2);simp only[cj];omega
 |l::ls,o::st,i+1,j+1,l1,o1,l2,o2,h,h1,h2,h3,h4=>by
  have:=J5 b ls st i j l1 o1 l2 o2 (by omega) (by simpa using h1) (by simpa using h2) (by simpa using h3) (by simpa using h4);simp only[cj];omega
theorem wh(b:Nat):∀(ls:List lB)(st:List fq)(i:Nat) l o l' o',ls[i]?=some l->st[i]?=some o->
  cj b (ls.set i l') (st.set i o')+iJ b l o=cj b ls st+iJ b l' o'
 |[],_,_,_,_,_,_,h,_=>by simp at h|_::_,[],_,_,_,_,_,_,h=>by simp at h|l::ls,o::st,0,l1,o1,l2,o2,h,k=>by simp at h k;subst h;subst k;simp only[List.set_cons_zero,cj];omega|l::ls,o::st,i+1,l1,o1,l2,o2,h,k=>by
  have:=wh b ls st i l1 o1 l2 o2 (by simpa using h) (by simpa using k);simp only[List.set_cons_succ,cj];omega
theorem sL(b:Nat):∀(ls ls':List lB)(st st':List fq),ls.length=st.length->cj b (ls++ls') (st++st')=cj b ls st+cj b ls' st'
 |[],_,[],_,_=>by simp[cj]|[],_,_::_,_,h=>by simp at h|_::_,_,[],_,h=>by simp at h|l::ls,ls',o::st,st',h=>by
  simp only[List.cons_append,cj];rw[sL b ls ls' st st' (by simpa using h)];omega
theorem nJ(b:Nat):∀(β:List mS)(bx:List (List AV))(i:Nat) g r,β[i]?=some g->bx[i]?=some r->(if g.jK=some b then 1 else 0)+bU b r g.vals<=fR b β bx
 |[],_,_,_,_,h,_=>by simp at h|_::_,[],_,_,_,_,h=>by simp at h|g::β,r::bx,0,g',r',h,k=>by simp at h k;subst h;subst k;simp only[fR];omega|g::β,r::bx,i+1,g',r',h,k=>by
  have:=nJ b β bx i g' r' (by simpa using h) (by simpa using k);simp only[fR];omega
theorem zv(b:Nat):∀(β:List mS)(bx:List (List AV))(i:Nat) g r g' r',β[i]?=some g->bx[i]?=some r->
  fR b (β.set i g') (bx.set i r')+((if g.jK=some b then 1 else 0)+bU b r g.vals)=fR b β bx+((if g'.jK=some b then 1 else 0)+bU b r' g'.vals)
 |[],_,_,_,_,_,_,h,_=>by simp at h|_::_,[],_,_,_,_,_,_,h=>by simp at h|g::β,r::bx,0,g1,r1,g2,r2,h,k=>by simp at h k;subst h;subst k;simp only[List.set_cons_zero,fR];omega|g::β,r::bx,i+1,g1,r1,g2,r2,h,k=>by
  have:=zv b β bx i g1 r1 g2 r2 (by simpa using h) (by simpa using k);simp only[List.set_cons_succ,fR];omega
theorem J6(b:Nat):∀(β:List mS)(bx:List (List AV))(i j:Nat) g r g' r',i≠j->β[i]?=some g->bx[i]?=some r->β[j]?=some g'->bx[j]?=some r'->
  ((if g.jK=some b then 1 else 0)+bU b r g.vals)+((if g'.jK=some b then 1 else 0)+bU b r' g'.vals)<=fR b β bx
 |[],_,_,_,_,_,_,_,_,h,_,_,_=>by simp at h|_::_,[],_,_,_,_,_,_,_,_,h,_,_=>by simp at h|l::ls,o::st,0,0,_,_,_,_,h,_,_,_,_=>absurd rfl h|l::ls,o::st,0,j+1,l1,o1,l2,o2,_,h1,h2,h3,h4=>by
  simp at h1 h2;subst h1;subst h2;have:=nJ b ls st j l2 o2 (by simpa using h3) (by simpa using h4);simp only[fR];omega
 |l::ls,o::st,i+1,0,l1,o1,l2,o2,_,h1,h2,h3,h4=>by
  simp at h3 h4;subst h3;subst h4;have:=nJ b ls st i l1 o1 (by simpa using h1) (by simpa using h2);simp only[fR];omega
 |l::ls,o::st,i+1,j+1,l1,o1,l2,o2,h,h1,h2,h3,h4=>by
  have:=J6 b ls st i j l1 o1 l2 o2 (by omega) (by simpa using h1) (by simpa using h2) (by simpa using h3) (by simpa using h4);simp only[fR];omega
structure zw (w:World)(G:aQ)(aG:List AV)(g:mS):Prop where
 uD:cn w G aG g.vals
 CO:AV.aO aG=true
 p0:(g.jK=none/\aG=[])\/∃b c e,g.jK=some b/\w.heap[b]?=some (.cells c e (0,0))/\aG.length<=c.size/\G.mj b=some 0/\∀(k:Nat) x,g.vals[k]?=some x->w.cell? ⟨b,k,none⟩=some x
structure j5 (w:World)(G:aQ)(β:List mS)(bx:aX):Prop where
 len:β.length=bx.length
 box:∀(j:Nat) aG g,bx[j]?=some aG->β[j]?=some g->zw w G aG g
def dZ(w:World)(G:aQ)(w':World)(G':aQ)(b:Nat):Prop:=G'.mj b=G.mj b/\w'.heap[b]?=w.heap[b]?
theorem qu{b o:Nat}(h:w'.heap[b]?=w.heap[b]?):w'.cell? ⟨b,o,none⟩=w.cell? ⟨b,o,none⟩:=by simp[World.cell?,h]
theorem zw.jj{aG:List AV}{g:mS}(h:zw w G aG g)(hs:sK w G w' G')(hf:∀b,0<(if g.jK=some b then 1 else 0)+bU b aG g.vals->dZ w G w' G' b):zw w' G' aG g where
 uD:=h.uD.mono hs λb hb=>hf b (by omega)
 CO:=h.CO
 p0:=by
  rcases h.p0 with h|⟨b,c,e,h1,h2,h3,h4,h5⟩;exact .inl h;obtain⟨a1,a2⟩:=hf b (by simp[h1];omega);exact .inr ⟨b,c,e,h1,a2.trans h2,h3,a1.trans h4,λk x hx=>(qu a2).trans (h5 k x hx)⟩
theorem p6.jj{ob:fq}{loc:lB}(h:p6 w G ob loc)(hs:sK w G w' G')(hf:∀b,0<iJ b loc ob->dZ w G w' G' b):p6 w' G' ob loc:=by
 cases ob with
 |rows b6 sz rows=>
  obtain⟨h1,h2,h3⟩:=h;refine⟨h1,h2,h3.Gg,h3.CO,h3.len,h3.size,h3.tE,λi r xs e1 e2=>?_,?_⟩;refine(h3.tX i r xs e1 e2).mono hs λb hb=>hf b ?_;have:=xq b rows loc.vals i r xs e1 e2;simp only[iJ];omega;rcases h3.p0 with h|⟨b,off,c,e,g1,g2,g3,g4,g5,g6,g7⟩;exact .inl h;obtain⟨a1,a2⟩:=hf b (by
   have:loc.jK=some b:=by unfold lB.jK;rw[if_neg (by omega),g1];rfl
   simp[iJ,this];omega)
  exact .inr ⟨b,off,c,e,g1,g2,a2.trans g3,g4,g5,a1.trans g6,λi xs j x e1 e2=>(qu a2).trans (g7 i xs j x e1 e2)⟩
 |map es=>
  obtain⟨h1,h2,b,r7,clock,h3,h4,h5,h6,h7⟩:=h;obtain⟨a1,a2⟩:=hf b (by
   have:loc.jK=some b:=by unfold lB.jK;rw[if_neg (by omega),h3];rfl
   simp[iJ,this])
  refine⟨h1,h2,b,r7,clock,h3,a2.trans h4,a1.trans h5,h6,λi k v e e1 e2=>?_⟩;obtain⟨g1,g2,g3,g4⟩:=h7 i k v e e1 e2;exact⟨g1.jj hs λb hb=>by rw[eS b k _ g4]at hb;omega,g2.jj hs λb hb=>by rw[eS b v _ g3]at hb;omega,g3,g4⟩
theorem aS.held{a:AV}{v:Value}{b:Nat}(h:aS w G a v):0<fG b a v->b<w.heap.size:=by
 induction h with
 |agg cs vs hl h ih=>
  intro hb;simp only[fG]at hb;have key:∀(cs:List AV) (vs:List Value),0<bU b cs vs->∃(i:Nat) (c:AV) (v:Value),cs[i]?=some c/\vs[i]?=some v/\0<fG b c v:=by
   intro cs;induction cs with
   |nil=>intro vs h;rw[Dy]at h;omega|cons c cs ih=>
    intro vs h;cases vs with
    |nil=>simp[bU]at h|cons v vs=>
     simp only[bU]at h;by_cases hc:0<fG b c v;exact⟨0,c,v,rfl,rfl,hc⟩;obtain⟨i,c',v',e1,e2,e3⟩:=ih vs (by omega);exact⟨i+1,c',v',by simpa using e1,by simpa using e2,e3⟩
  obtain⟨i,c,v,e1,e2,e3⟩:=key cs vs.toList hb;exact ih i c v e1 (by simpa using e2) e3
 |fF cs vs hl h ih=>
  intro hb;simp only[fG]at hb;have key:∀(cs:List AV) (vs:List Value),0<bU b cs vs->∃(i:Nat) (c:AV) (v:Value),cs[i]?=some c/\vs[i]?=some v/\0<fG b c v:=by
   intro cs;induction cs with
   |nil=>intro vs h;rw[Dy]at h;omega|cons c cs ih=>
    intro vs h;cases vs with
    |nil=>simp[bU]at h|cons v vs=>
     simp only[bU]at h;by_cases hc:0<fG b c v;exact⟨0,c,v,rfl,rfl,hc⟩;obtain⟨i,c',v',e1,e2,e3⟩:=ih vs (by omega);exact⟨i+1,c',v',by simpa using e1,by simpa using e2,e3⟩
  obtain⟨i,c,v,e1,e2,e3⟩:=key cs vs.toList hb;exact ih i c v e1 (by simpa using e2) e3
 |lA sz rows a cap oF fI cI iz pC w9 hc hr iC fD ih=>
  intro hb;simp only[fG]at hb;split at hb;rename_i e;obtain⟨c,e',h1,_⟩:=fD;rw[<-e];exact(Array.getElem?_eq_some_iff.1 h1).1;omega
 |raw sz rows a cap oF fI cI iz pC w9 hc hr iC fD ih=>
  intro hb;simp only[fG]at hb;split at hb;rename_i e;obtain⟨c,e',h1,_⟩:=fD;rw[<-e];exact(Array.getElem?_eq_some_iff.1 h1).1;omega
 |_=>intro hb;simp[fG]at hb
theorem cn.held{as:List AV}{xs:List Value}{b:Nat}(h:cn w G as xs)(hb:0<bU b as xs):b<w.heap.size:=by
 have:aS w G (.agg as) (.agg xs.toArray):=.agg _ _ (by simpa using h.1) λi c v e1 e2=>h.2 i c v e1 (by simpa using e2);exact this.held (by simpa [fG] using hb)
theorem p6.held{ob:fq}{loc:lB}{b:Nat}(h:p6 w G ob loc)(hb:0<iJ b loc ob):b<w.heap.size:=by
 have jK:loc.jK=some b->b<w.heap.size:=by
  intro e;unfold lB.jK at e;split at e;cases e;rename_i fI;cases ob with
  |rows b6 sz rows=>
   obtain⟨_,_,h3⟩:=h;rcases h3.p0 with⟨h0,_⟩|⟨b',off,c,e',g1,g2,g3,_⟩;exact absurd h0 fI;rw[g1]at e;simp at e;subst e;exact(Array.getElem?_eq_some_iff.1 g3).1
  |map es=>
   obtain⟨_,_,b',r7,clock,h3,h4,_⟩:=h;rw[h3]at e;simp at e;subst e;exact(Array.getElem?_eq_some_iff.1 h4).1
 cases ob with
 |rows b6 sz rows=>
  simp only[iJ]at hb;split at hb;exact jK (by assumption);obtain⟨_,_,h3⟩:=h;have key:∀(rs:List (List AV)) (xs:List (List Value)),0<fL b rs xs->∃(i:Nat) (r:List AV) (x:List Value),rs[i]?=some r/\xs[i]?=some x/\0<bU b r x:=by
   intro rs;induction rs with
   |nil=>intro xs h;simp[fL]at h|cons r rs ih=>
    intro xs h;cases xs with
    |nil=>simp[fL]at h|cons x xs=>
     simp only[fL]at h;by_cases hc:0<bU b r x;exact⟨0,r,x,rfl,rfl,hc⟩;obtain⟨i,r',x',e1,e2,e3⟩:=ih xs (by omega);exact⟨i+1,r',x',by simpa using e1,by simpa using e2,e3⟩
  obtain⟨i,r,x,e1,e2,e3⟩:=key rows loc.vals (by omega);exact(h3.tX i r x e1 e2).held e3
 |map es=>
  simp only[iJ]at hb;split at hb;exact jK (by assumption);omega
theorem jn.held{st:ai}{b:Nat}(h:jn w G st)(hb:0<cj b G.ls st):b<w.heap.size:=by
 have key:∀(ls:List lB) (st:List fq),0<cj b ls st->∃(i:Nat) (l:lB) (o:fq),ls[i]?=some l/\st[i]?=some o/\0<iJ b l o:=by
  intro ls;induction ls with
  |nil=>intro st h;simp[cj]at h|cons l ls ih=>
   intro st h;cases st with
   |nil=>simp[cj]at h|cons o st=>
    simp only[cj]at h;by_cases hc:0<iJ b l o;exact⟨0,l,o,rfl,rfl,hc⟩;obtain⟨i,l',o',e1,e2,e3⟩:=ih st (by omega);exact⟨i+1,l',o',by simpa using e1,by simpa using e2,e3⟩
 obtain⟨i,l,o,e1,e2,e3⟩:=key G.ls st hb;exact(h.bC i o l e2 e1).held e3
theorem j5.held{bx:aX}{b:Nat}(h:j5 w G β bx)(hb:0<fR b β bx):b<w.heap.size:=by
 have key:∀(β:List mS) (bx:aX),0<fR b β bx->∃(i:Nat) (g:mS) (r:List AV),β[i]?=some g/\bx[i]?=some r/\0<(if g.jK=some b then 1 else 0)+bU b r g.vals:=by
  intro β;induction β with
  |nil=>intro st h;simp[fR]at h|cons l ls ih=>
   intro st h;cases st with
   |nil=>simp[fR]at h|cons o st=>
    simp only[fR]at h;by_cases hc:0<(if l.jK=some b then 1 else 0)+bU b o l.vals;exact⟨0,l,o,rfl,rfl,hc⟩;obtain⟨i,l',o',e1,e2,e3⟩:=ih st (by omega);exact⟨i+1,l',o',by simpa using e1,by simpa using e2,e3⟩
 obtain⟨i,g,r,e1,e2,e3⟩:=key β bx hb;have hB:=h.box i r g e2 e1;by_cases hc:0<bU b r g.vals;exact hB.uD.held hc;split at e3;rename_i fD;rcases hB.p0 with⟨h0,_⟩|⟨b',c,e',g1,g2,_⟩;rw[h0]at fD;cases fD;rw[g1]at fD;cases fD;exact(Array.getElem?_eq_some_iff.1 g2).1;omega
end Ax
namespace Ax
open Go
variable {P:Program}{w w':World}{G G':aQ}{β gw:List mS}{ρ:Operand->Value}{o:Oper}
structure jo (w:World)(G:aQ)(β:List mS)(st:ai)(bx:aX)(cO:Nat->Nat)(w':World)(G':aQ)(gw:List mS)(st':ai)(fH:aX)(e:eO)(v:Value):Prop where
 jj:sK w G w' G'
 inv:jn w' G' st'
 box:j5 w' G' gw fH
 uD:kF w' G' gw e v
 fG:∀b,cx b e v+fR b gw fH+cj b G'.ls st'<=cO b+fR b β bx+cj b G.ls st+(if w.heap.size<=b then 1 else 0)
 wj:∀b,cO b+fR b β bx+cj b G.ls st=0->b<w.heap.size->dZ w G w' G' b
 size:w.heap.size<=w'.heap.size
 os:w'.os=w.os
 out:w'.output=w.output
theorem jo.ni{st:ai}{bx:aX}{cO:Nat->Nat}{e:eO}{v:Value}(hI:jn w G st)(hB:j5 w G β bx)(hr:kF w G β e v)(hc:∀b,cx b e v<=cO b):jo w G β st bx cO w G β st bx e v where
 jj:=sK.refl w G
 inv:=hI
 box:=hB
 uD:=hr
 fG:=λb=>by have:=hc b;omega
 wj:=λ_ _ _=>⟨rfl,rfl⟩
 size:=Nat.le_refl _
 os:=rfl
 out:=rfl
def aQ.new(G:aQ)(n:Nat)(x:Option Nat)(l:List lB):aQ:=⟨G.ls++l,λb=>if b=n then x else G.mj b⟩
theorem Qn{ob:Obj}(hw:w'.heap=w.heap.push ob){b o:Nat}(hb:b<w.heap.size):w'.cell? ⟨b,o,none⟩=w.cell? ⟨b,o,none⟩:=by
 refine qu ?_;rw[hw,Array.getElem?_push,if_neg (by omega)]
theorem sM{ob:Obj}(hw:w'.heap=w.heap.push ob)(x:Option Nat)(l:List lB):sK w G w' (G.new w.heap.size x l) where
 Sj:=λb o hi=>by
  refine⟨Qn hw hi.1,by rw[hw];simp;have:=hi.1;omega,λp hp=>?_⟩;have:¬b=w.heap.size:=by have:=hi.1;omega
  simp only[aQ.new,if_neg this]at hp;exact hi.2 p hp
 gX:=λid loc hl=>by
  refine⟨loc,?_,Nat.le_refl _,λ_=>rfl⟩;simp only[aQ.new];rw[List.getElem?_append_left (List.getElem?_eq_some_iff.1 hl).1];exact hl
theorem gG{ob:Obj}(hw:w'.heap=w.heap.push ob)(x:Option Nat)(l:List lB){b:Nat}(hb:b<w.heap.size):dZ w G w' (G.new w.heap.size x l) b:=by
 refine⟨by simp only[aQ.new];rw[if_neg (by omega)],?_⟩;rw[hw,Array.getElem?_push,if_neg (by omega)]
theorem aS.push{ob:Obj}(hw:w'.heap=w.heap.push ob)(x:Option Nat)(l:List lB){a:AV}{v:Value}(h:aS w G a v):aS w' (G.new w.heap.size x l) a v:=
 h.jj (sM hw x l) λ_ hb=>gG hw x l (h.held hb)
theorem cn.push{ob:Obj}(hw:w'.heap=w.heap.push ob)(x:Option Nat)(l:List lB){as:List AV}{xs:List Value}(h:cn w G as xs):cn w' (G.new w.heap.size x l) as xs:=
 ⟨h.1,λi c v e1 e2=>(h.2 i c v e1 e2).push hw x l⟩
theorem N6{ob:Obj}(hw:w'.heap=w.heap.push ob)(x:Option Nat){st:ai}(hI:jn w G st):jn w' (G.new w.heap.size x []) st where
 len:=by simp[aQ.new,hI.len]
 bC:=λid JO loc h1 h2=>by
  simp only[aQ.new,List.append_nil]at h2;have h:=hI.bC id JO loc h1 h2;exact h.jj (sM hw x []) λb hb=>gG hw x [] (h.held hb)
 mT:=λb p hp=>by
  simp only[aQ.new]at hp;rw[hw];simp only[Array.size_push];split at hp;omega;have:=hI.mT b p hp;omega
theorem J7{ob:Obj}(hw:w'.heap=w.heap.push ob)(x:Option Nat){st:ai}(hI:jn w G st){loc:lB}{ao:fq}(h:p6 w' (G.new w.heap.size x [loc]) ao loc):jn w' (G.new w.heap.size x [loc]) (st++[ao]) where
 len:=by simp[aQ.new,hI.len]
 bC:=λid JO l h1 h2=>by
  simp only[aQ.new]at h2;by_cases JP:id<st.length;rw[List.getElem?_append_left JP]at h1;rw[List.getElem?_append_left (by rw[hI.len];exact JP)]at h2;have h:=hI.bC id JO l h1 h2;exact h.jj (sM hw x [loc]) λb hb=>gG hw x [loc] (h.held hb);rw[List.getElem?_append_right (by omega)]at h1;rw[List.getElem?_append_right (by rw[hI.len];omega)]at h2;rw[hI.len]at h2;have h0:id-st.length=0:=by
   have:=(List.getElem?_eq_some_iff.1 h1).1;simp at this;omega
  rw[h0]at h1 h2;simp at h1 h2;subst h1;subst h2;exact h
 mT:=λb p hp=>by
  simp only[aQ.new]at hp;rw[hw];simp only[Array.size_push];split at hp;omega;have:=hI.mT b p hp;omega
theorem DD{ob:Obj}(hw:w'.heap=w.heap.push ob)(x:Option Nat)(l:List lB){bx:aX}(hB:j5 w G β bx):j5 w' (G.new w.heap.size x l) β bx where
 len:=hB.len
 box:=λj aG g h1 h2=>by
  have h:=hB.box j aG g h1 h2;refine h.jj (sM hw x l) λb hb=>gG hw x l (hB.held (b:=b) ?_);have:=nJ b β bx j g aG h2 h1;omega
theorem CQ{ob:Obj}(hw:w'.heap=w.heap.push ob)(Mj:w'.os=w.os)(x5:w'.output=w.output)(x:Option Nat){st:ai}{bx:aX}(hI:jn w G st)(hB:j5 w G β bx){cO:Nat->Nat}{a:AV}{v:Value}
  (hr:aS w' (G.new w.heap.size x []) a v)(hc:∀b,fG b a v<=if b=w.heap.size then 1 else 0):jo w G β st bx cO w' (G.new w.heap.size x []) β st bx (.val a) v where
 jj:=sM hw x []
 inv:=N6 hw x hI
 box:=DD hw x [] hB
 uD:=hr
 fG:=λb=>by
  have:=hc b;simp only[cx,aQ.new,List.append_nil];split at this;rename_i e;subst e;simp;omega;omega
 wj:=λb _ hb=>gG hw x [] hb
 size:=by rw[hw];simp
 os:=Mj
 out:=x5
theorem sN{ob:Obj}(hw:w'.heap=w.heap.push ob)(Mj:w'.os=w.os)(x5:w'.output=w.output){st:ai}{bx:aX}(hI:jn w G st)(hB:j5 w G β bx){cO:Nat->Nat}{a:AV}{v:Value}{loc:lB}{ao:fq}
  (h:p6 w' (G.new w.heap.size (some 0) [loc]) ao loc)(hr:aS w' (G.new w.heap.size (some 0) [loc]) a v)(hn:a.b9=true)(hc:∀b,iJ b loc ao<=(if b=w.heap.size then 1 else 0)+cO b) :
  jo w G β st bx cO w' (G.new w.heap.size (some 0) [loc]) β (st++[ao]) bx (.val a) v where
 jj:=sM hw _ _
 inv:=J7 hw _ hI h
 box:=DD hw _ _ hB
 uD:=hr
 fG:=λb=>by
  have h1:=hc b;simp only[cx,aQ.new,eS b a v hn];rw[sL b _ _ _ _ hI.len];simp only[cj];split at h1;rename_i e;subst e;simp;omega;omega
 wj:=λb _ hb=>gG hw _ _ hb
 size:=by rw[hw];simp
 os:=Mj
 out:=x5
theorem sP{sz:Nat}{α:Type}:∀(rows:List (List α))(i j:Nat) r c,(∀r∈rows,r.length=sz)->rows[i]?=some r->r[j]?=some c->rows.flatten[i*sz+j]?=some c
 |[],_,_,_,_,_,h,_=>by simp at h|r0::rows,0,j,r,c,hf,h1,h2=>by
  simp at h1;subst h1;simp only[List.flatten_cons,Nat.zero_mul,Nat.zero_add];rw[List.getElem?_append_left (List.getElem?_eq_some_iff.1 h2).1];exact h2
 |r0::rows,i+1,j,r,c,hf,h1,h2=>by
  have ih:=sP rows i j r c (λr hr=>hf r (by simp[hr])) (by simpa using h1) h2;have h0:r0.length=sz:=hf r0 (by simp);simp only[List.flatten_cons];rw[List.getElem?_append_right (by rw[h0,Nat.succ_mul];omega),h0];rw[show (i+1)*sz+j-sz=i*sz+j by rw[Nat.succ_mul];omega];exact ih
theorem cq{sz:Nat}{rows:List (List AV)}:bV sz rows=true↔∀r∈rows,r.length=sz:=by
 simp[bV]
theorem fy{sz:Nat}{α:Type}:∀(rows:List (List α)),(∀r∈rows,r.length=sz)->rows.flatten.length=rows.length*sz
 |[],_=>by simp|r::rows,h=>by
  simp only[List.flatten_cons,List.length_append,List.length_cons];rw[fy rows λr hr=>h r (by simp[hr]),h r (by simp),Nat.succ_mul];omega
def rq{α:Type}(sz:Nat):Nat->List α->List (List α)
 |0,_=>[]
 |n+1,xs=>xs.take sz::rq sz n (xs.drop sz)
theorem BU{α:Type}(sz:Nat):∀(n:Nat)(xs:List α),(rq sz n xs).length=n
 |0,_=>rfl|n+1,xs=>by simp[rq,BU sz n]
theorem DE{α:Type}(sz:Nat):∀(n:Nat)(xs:List α)(i:Nat) ys,(rq sz n xs)[i]?=some ys->ys=(xs.drop (i*sz)).take sz
 |0,_,_,_,h=>by simp[rq]at h|n+1,xs,0,ys,h=>by simp[rq]at h;simp[h]|n+1,xs,i+1,ys,h=>by
  simp only[rq,List.getElem?_cons_succ]at h;rw[DE sz n _ i ys h,List.drop_drop];congr 2;rw[Nat.succ_mul];omega
theorem Gh{sz:Nat}:∀(rows:List (List AV))(i:Nat) r,(∀r∈rows,r.length=sz)->rows[i]?=some r->(rows.flatten.drop (i*sz)).take sz=r
 |[],_,_,_,h=>by simp at h|r0::rows,0,r,hf,h=>by
  simp at h;subst h;have h0:r0.length=sz:=hf r0 (by simp);simp[<-h0]
 |r0::rows,i+1,r,hf,h=>by
  have ih:=Gh rows i r (λr hr=>hf r (by simp[hr])) (by simpa using h);have h0:r0.length=sz:=hf r0 (by simp);simp only[List.flatten_cons];rw[show (i+1)*sz=r0.length+i*sz by rw[h0,Nat.succ_mul];omega,<-List.drop_drop,List.drop_left];exact ih
theorem ru{sz:Nat}(b:Nat):∀(rows:List (List AV))(xs:List Value),(∀r∈rows,r.length=sz)->rows.flatten.length=xs.length->fL b rows (rq sz rows.length xs)=bU b rows.flatten xs
 |[],xs,_,_=>by simp[fL,Dy]|r::rows,xs,hf,hl=>by
  have h0:r.length=sz:=hf r (by simp);simp only[List.length_cons,rq,fL,List.flatten_cons];rw[List.flatten_cons,List.length_append]at hl;rw[ru b rows (xs.drop sz) (λr hr=>hf r (by simp[hr])) (by rw[List.length_drop];omega)];have:=fK b r rows.flatten (xs.take sz) (xs.drop sz) (by rw[List.length_take];omega);rw[List.take_append_drop]at this;omega
theorem nK{sz:Nat}{rows:List (List AV)}{loc:lB}{b off:Nat}{c:Array Value}{e:TypeId}{xs:List Value}(hf:bV sz rows=true)(iV:∀r∈rows,AV.aO r=true)(dG:cn w G rows.flatten xs)
  (h1:loc.len=rows.length)(h2:loc.sz=sz)(h3:loc.vals=rq sz rows.length xs)(h4:loc.a=some ⟨b,off,none⟩)(h5:0<loc.cap)(h6:w.heap[b]?=some (.cells c e (0,0)))(h7:off+loc.cap*sz<=c.size)
  (h8:rows.length<=loc.cap) (h9:G.mj b=some 0) (zf:∀(k:Nat) x,xs[k]?=some x->w.cell? ⟨b,off+k,none⟩=some x):v9 w G sz rows loc where
 Gg:=hf
 CO:=iV
 len:=h1
 size:=h2
 tE:=by rw[h3,BU]
 tX:=λi r ys e1 e2=>by
  rw[h3]at e2;rw[DE _ _ _ _ _ e2,<-Gh rows i r (cq.1 hf) e1];exact(dG.drop _).take _
 p0:=by
  refine .inr ⟨b,off,c,e,h4,h5,h6,h7,h8,h9,λi ys j x e1 e2=>?_⟩;rw[h3]at e1;rw[DE _ _ _ _ _ e1,List.getElem?_take]at e2;split at e2;rw[List.getElem?_drop]at e2;exact zf _ x e2;cases e2
end Ax
namespace Ax
open Go
variable {P:Program}{w w':World}{G G':aQ}{β gw:List mS}{ρ:Operand->Value}{o:Oper}
theorem DF{c:Array Value}{e:TypeId}(hw:w'.heap=w.heap.push (.cells c e)){k:Nat}{x:Value}(h:c[k]?=some x):w'.cell? ⟨w.heap.size,k,none⟩=some x:=by
 simp[World.cell?,hw,h]
theorem ry{ob:Obj}(hw:w'.heap=w.heap.push ob):w'.heap[w.heap.size]?=some ob:=by simp[hw]
theorem Sv{sz cap:Nat}{rows:List (List AV)}{c:Array Value}{e:TypeId}{xs:List Value}{l:List lB}(hw:w'.heap=w.heap.push (.cells c e))(hf:bV sz rows=true)(iV:∀r∈rows,AV.aO r=true)
  (dG:cn w G rows.flatten xs)(h5:0<cap)(h7:cap*sz<=c.size)(h8:rows.length<=cap)(hx:∀(k:Nat) x,xs[k]?=some x->c[k]?=some x)(b6:Nat) :
  v9 w' (G.new w.heap.size (some 0) l) sz rows ⟨some ⟨w.heap.size,0,none⟩,cap,rows.length,sz,b6,false,rq sz rows.length xs⟩:=
 nK hf iV (dG.push hw _ _) rfl rfl rfl rfl h5 (ry hw) (by simpa using h7) h8 (by simp[aQ.new]) λk x hk=>by
  rw[Nat.zero_add];exact DF hw (hx k x hk)
theorem wm{sz cap:Nat}{rows:List (List AV)}{c:Array Value}{e:TypeId}{xs:List Value}{st:ai}{bx:aX}(hI:jn w G st)(hB:j5 w G β bx){cO:Nat->Nat}(hw:w'.heap=w.heap.push (.cells c e))(Mj:w'.os=w.os)(x5:w'.output=w.output)
  (hf:bV sz rows=true)(iV:∀r∈rows,AV.aO r=true)(dG:cn w G rows.flatten xs)(h5:0<cap)(h7:cap*sz<=c.size)(h8:rows.length<=cap)
  (hx:∀(k:Nat) x,xs[k]?=some x->c[k]?=some x) (hc:∀b,bU b rows.flatten xs<=cO b) :
  ∃G',jo w G β st bx cO w' G' β (st++[.rows 0 sz rows]) bx (.val (.mu st.length 0)) (.slice (some ⟨w.heap.size,0,none⟩) rows.length cap)/\
   jo w G β st bx cO w' G' β (st++[.rows 0 sz rows]) bx (.val (.ptr st.length 0 0 0)) (.pointer (some ⟨w.heap.size,0,none⟩)):=by
 have hR:=Sv (l:=[⟨some ⟨w.heap.size,0,none⟩,cap,rows.length,sz,0,false,rq sz rows.length xs⟩]) hw hf iV dG h5 h7 h8 hx 0;have My:∀b,iJ b ⟨some ⟨w.heap.size,0,none⟩,cap,rows.length,sz,0,false,rq sz rows.length xs⟩ (.rows 0 sz rows)<=(if b=w.heap.size then 1 else 0)+cO b:=by
  intro b;simp only[iJ,lB.jK];rw[ru b rows xs (cq.1 hf) dG.1,if_neg (show ¬cap=0 by omega)];have:=hc b;simp only[Option.map_some,Option.some.injEq];by_cases hb:b=w.heap.size;subst hb;simp;omega;rw[if_neg (λh=>hb h.symm),if_neg hb];omega
 have hl:(G.new w.heap.size (some 0) [⟨some ⟨w.heap.size,0,none⟩,cap,rows.length,sz,0,false,rq sz rows.length xs⟩]).ls[st.length]?=some ⟨some ⟨w.heap.size,0,none⟩,cap,rows.length,sz,0,false,rq sz rows.length xs⟩:=by
  simp only[aQ.new];rw[List.getElem?_append_right (by rw[hI.len];exact Nat.le_refl _),hI.len];simp
 refine⟨_,sN hw Mj x5 hI hB ⟨rfl,rfl,hR⟩ (.mu _ _ _ _ ⟨_,_,_,rfl⟩ hl (Nat.le_refl _) λ_=>rfl) rfl My,
  sN hw Mj x5 hI hB ⟨rfl,rfl,hR⟩ (.ptr _ _ _ _ _ _ ⟨_,rfl⟩ hl (Nat.le_refl _) λ_=>⟨_,rfl,by simp⟩) rfl My⟩
theorem HX{sz cap:Nat}{rows:List (List AV)}{b off:Nat}{c:Array Value}{e:TypeId}{xs:List Value}(hf:bV sz rows=true)(iV:∀r∈rows,AV.aO r=true)(iz:∀r∈rows,AV.dN r=true)(pC:∀r∈rows,AV.af r=true)
  (dG:cn w G rows.flatten xs)(h6:w.heap[b]?=some (.cells c e (0,0)))(h7:off+cap*sz<=c.size)(h8:rows.length<=cap)(h9:G.mj b=some (off+rows.length*sz))
  (hx:∀(k:Nat) x,xs[k]?=some x->c[off+k]?=some x):aS w G (.lA sz rows) (.slice (some ⟨b,off,none⟩) rows.length cap):=by
 have oA:∀(k:Nat) x,xs[k]?=some x->w.cell? ⟨b,off+k,none⟩=some x:=λk x h=>by simp[World.cell?,h6,hx k x h]
 have key:∀(i:Nat) r (j:Nat) a,rows[i]?=some r->r[j]?=some a->∃v,w.cell? ⟨b,off+(i*sz+j),none⟩=some v/\aS w G a v:=by
  intro i r j a h1 h2;have h3:=sP rows i j r a (cq.1 hf) h1 h2;have bw:i*sz+j<xs.length:=by rw[<-dG.1];exact(List.getElem?_eq_some_iff.1 h3).1
  exact⟨_,oA _ _ (List.getElem?_eq_getElem bw),dG.2 _ _ _ h3 (List.getElem?_eq_getElem bw)⟩
 refine .lA sz rows ⟨b,off,none⟩ cap rfl h8 hf iz pC iV (λi r j a h1 h2=>?_) (λi r j a v h1 h2 h3=>?_) h9 ⟨c,e,h6,h7⟩;obtain⟨v,h,_⟩:=key i r j a h1 h2;exact⟨v,h⟩;obtain⟨v',h,h'⟩:=key i r j a h1 h2;rw[h]at h3;cases h3;exact h'
theorem HY{sz cap:Nat}{rows:List (List AV)}{c:Array Value}{e:TypeId}{xs:List Value}{st:ai}{bx:aX}(hI:jn w G st)(hB:j5 w G β bx){cO:Nat->Nat}(hw:w'.heap=w.heap.push (.cells c e))(Mj:w'.os=w.os)(x5:w'.output=w.output)
  (hf:bV sz rows=true)(iV:∀r∈rows,AV.aO r=true)(iz:∀r∈rows,AV.dN r=true)(pC:∀r∈rows,AV.af r=true)
  (dG:cn w G rows.flatten xs) (h7:cap*sz<=c.size) (h8:rows.length<=cap)
  (hx:∀(k:Nat) x,xs[k]?=some x->c[k]?=some x) :
  ∃G',jo w G β st bx cO w' G' β st bx (.val (.lA sz rows)) (.slice (some ⟨w.heap.size,0,none⟩) rows.length cap):=by
 refine⟨_,CQ hw Mj x5 (some (rows.length*sz)) hI hB (HX hf iV iz pC (dG.push hw _ _) (ry hw) (by simpa using h7) h8 (by simp[aQ.new]) λk x hk=>by rw[Nat.zero_add];exact hx k x hk) λb=>?_⟩;simp only[fG];split;rename_i h;rw[if_pos h.symm];omega;omega
theorem Xg{sz cap:Nat}{rows:List (List AV)}{b off:Nat}{c:Array Value}{e:TypeId}{xs:List Value}(hf:bV sz rows=true)(iV:∀r∈rows,AV.aO r=true)(iz:∀r∈rows,AV.dN r=true)(pC:∀r∈rows,AV.af r=true)
  (dG:cn w G rows.flatten xs)(h6:w.heap[b]?=some (.cells c e (0,0)))(h7:off+cap*sz<=c.size)(h8:rows.length<=cap)(h9:G.mj b=some 0)
  (hx:∀(k:Nat) x,xs[k]?=some x->c[off+k]?=some x):aS w G (.raw sz rows) (.slice (some ⟨b,off,none⟩) rows.length cap):=by
 have oA:∀(k:Nat) x,xs[k]?=some x->w.cell? ⟨b,off+k,none⟩=some x:=λk x h=>by simp[World.cell?,h6,hx k x h]
 have key:∀(i:Nat) r (j:Nat) a,rows[i]?=some r->r[j]?=some a->∃v,w.cell? ⟨b,off+(i*sz+j),none⟩=some v/\aS w G a v:=by
  intro i r j a h1 h2;have h3:=sP rows i j r a (cq.1 hf) h1 h2;have bw:i*sz+j<xs.length:=by rw[<-dG.1];exact(List.getElem?_eq_some_iff.1 h3).1
  exact⟨_,oA _ _ (List.getElem?_eq_getElem bw),dG.2 _ _ _ h3 (List.getElem?_eq_getElem bw)⟩
 refine .raw sz rows ⟨b,off,none⟩ cap rfl h8 hf iz pC iV (λi r j a h1 h2=>?_) (λi r j a v h1 h2 h3=>?_) h9 ⟨c,e,h6,h7⟩;obtain⟨v,h,_⟩:=key i r j a h1 h2;exact⟨v,h⟩;obtain⟨v',h,h'⟩:=key i r j a h1 h2;rw[h]at h3;cases h3;exact h'
theorem Xh{sz cap:Nat}{rows:List (List AV)}{c:Array Value}{e:TypeId}{xs:List Value}{st:ai}{bx:aX}(hI:jn w G st)(hB:j5 w G β bx){cO:Nat->Nat}(hw:w'.heap=w.heap.push (.cells c e))(Mj:w'.os=w.os)(x5:w'.output=w.output)
  (hf:bV sz rows=true)(iV:∀r∈rows,AV.aO r=true)(iz:∀r∈rows,AV.dN r=true)(pC:∀r∈rows,AV.af r=true)
  (dG:cn w G rows.flatten xs) (h7:cap*sz<=c.size) (h8:rows.length<=cap)
  (hx:∀(k:Nat) x,xs[k]?=some x->c[k]?=some x) :
  ∃G',jo w G β st bx cO w' G' β st bx (.val (.raw sz rows)) (.slice (some ⟨w.heap.size,0,none⟩) rows.length cap):=by
 refine⟨_,CQ hw Mj x5 (some 0) hI hB (Xg hf iV iz pC (dG.push hw _ _) (ry hw) (by simpa using h7) h8 (by simp[aQ.new]) λk x hk=>by rw[Nat.zero_add];exact hx k x hk) λb=>?_⟩;simp only[fG];split;rename_i h;rw[if_pos h.symm];omega;omega
theorem N8{aG:List AV}{c:Array Value}{e:TypeId}{st:ai}{bx:aX}(hI:jn w G st)(hB:j5 w G β bx){cO:Nat->Nat}(hw:w'.heap=w.heap.push (.cells c e))(Mj:w'.os=w.os)(x5:w'.output=w.output)
  {j:Nat}(hj:j<bx.length)(dG:cn w G aG c.toList)(iV:AV.aO aG=true)(hc:∀b,bU b aG c.toList<=cO b) :
  jo w G β st bx cO w' (G.new w.heap.size (some 0) []) (β.set j ⟨some w.heap.size,c.toList⟩) st (bx.set j aG) (.fp j 0) (.pointer (some ⟨w.heap.size,0,none⟩)) where
 jj:=sM hw _ _
 inv:=N6 hw _ hI
 box:=by
  have hB':=DD hw (some 0) [] hB;refine⟨by simp[hB.len],λi r g h1 h2=>?_⟩;rw[List.getElem?_set]at h1 h2;split at h1;rename_i Cr;subst Cr;rw[if_pos rfl,if_pos (by rw[hB.len];exact hj)]at h2;cases h1;cases h2;refine⟨dG.push hw _ _,iV,.inr ⟨w.heap.size,c,e,rfl,ry hw,by rw[dG.1];simp,by simp[aQ.new],λk x hk=>DF hw (by simpa using hk)⟩⟩;rw[if_neg (by assumption)]at h2;exact hB'.box i r g h1 h2
 uD:=⟨_,_,by rw[List.getElem?_set,if_pos rfl,if_pos (by rw[hB.len];exact hj)],rfl,rfl⟩
 fG:=λb=>by
  have hjb:j<β.length:=by rw[hB.len];exact hj
  have hg:β[j]?=some β[j]:=List.getElem?_eq_getElem hjb;have hr:bx[j]?=some bx[j]:=List.getElem?_eq_getElem hj;have h1:=zv b β bx j _ _ ⟨some w.heap.size,c.toList⟩ aG hg hr;have h2:=hc b;simp only[cx,aQ.new,List.append_nil];simp only[Option.some.injEq]at h1;by_cases hb:w.heap.size=b;subst hb;simp only[if_true]at h1;rw[if_pos (Nat.le_refl _)];omega;rw[if_neg hb]at h1;omega
 wj:=λb _ hb=>gG hw _ _ hb
 size:=by rw[hw];simp
 os:=Mj
 out:=x5
theorem N9{t:TypeId}(ho:o.op=.alloc t){i:TypeInfo}{z:Value}(hi:P.info? t=some i)(hz:i.zero=some z) :
  (execOp ρ o).run P w=.ok (.value (.pointer (some ⟨w.heap.size,0,none⟩))) (w.alloc (.cells z.cells t)):=by
 simp[execOp,ho,Instr.alloc,zeroValue,typeInfo,hi,hz,newVar,newRow]
theorem aag{t:TypeId}{x:Operand}(ho:o.op=.box t x) :
  (execOp ρ o).run P w=.ok (.value (.pointer (some ⟨w.heap.size,0,none⟩))) (w.alloc (.cells (ρ x).cells t)):=by
 simp[execOp,ho,Instr.box,newVar,newRow]
theorem Gi{zero:List AV}(h:∀c∈zero,c.b9=true/\c.au=true)(b:Nat)(xs:List Value):bU b zero xs=0:=
 dy b _ _ ((cA zero).2 λc hc=>(h c hc).1)
theorem Qo{st:ai}{bx:aX}(hI:jn w G st)(hB:j5 w G β bx){cO:Nat->Nat}{t:TypeId}{z:Value}{zero:List AV}(dG:cn w G zero z.cells.toList)(hn:∀c∈zero,c.b9=true/\c.au=true)(hc:AV.aO zero=true) :
  ∃G',jo w G β st bx cO (w.alloc (.cells z.cells t)) G' β (st++[.rows 0 zero.length [zero]]) bx (.val (.ptr st.length 0 0 0)) (.pointer (some ⟨w.heap.size,0,none⟩)):=by
 obtain⟨G',_,h⟩:=wm (sz:=zero.length) (cap:=1) (rows:=[zero]) (c:=z.cells) (e:=t) (xs:=z.cells.toList) (w':=w.alloc (.cells z.cells t)) (cO:=cO) hI hB rfl rfl rfl (by simp[bV]) (by simpa using hc) (by simpa using dG) (by omega)
  (by rw[dG.1];simp) (by simp) (by simp) (λb=>by simp only[List.flatten_cons,List.flatten_nil,List.append_nil];rw[Gi hn];omega)
 exact⟨G',h⟩
theorem Sw{st:ai}{bx:aX}(hI:jn w G st)(hB:j5 w G β bx){cO:Nat->Nat}{t:TypeId}{a:AV}{v:Value}{n:Nat}(hv:aS w G a v)(hn:a.cells.length=n)(hc:AV.aO a.cells=true)(hO:∀b,fG b a v<=cO b) :
  ∃G',jo w G β st bx cO (w.alloc (.cells v.cells t)) G' β (st++[.rows 0 n [a.cells]]) bx (.val (.ptr st.length 0 0 0)) (.pointer (some ⟨w.heap.size,0,none⟩)):=by
 obtain⟨hr,N3⟩:=hv.cells;obtain⟨G',_,h⟩:=wm (sz:=n) (cap:=1) (rows:=[a.cells]) (c:=v.cells) (e:=t) (xs:=v.cells.toList) (w':=w.alloc (.cells v.cells t)) (cO:=cO) hI hB rfl rfl rfl (by simp[bV,hn]) (by simpa using hc) (by simpa using hr) (by omega)
  (by rw[<-hn,hr.1];simp) (by simp) (by simp) (λb=>by simp only[List.flatten_cons,List.flatten_nil,List.append_nil];rw[N3];exact hO b)
 exact⟨G',h⟩
theorem DG{α:Type}{sz:Nat}:∀(rows:List (List α))(i:Nat)(r:List α),(∀r∈rows,r.length=sz)->r.length=sz->i<rows.length->(rows.set i r).flatten=ah rows.flatten (i*sz) r
 |[],_,_,_,_,h=>by simp at h|r0::rows,0,r,hf,hr,_=>by
  have h0:r0.length=sz:=hf r0 (by simp);have e:=jM (r0++rows.flatten) 0 r (by simp;omega);simp only[List.set_cons_zero,List.flatten_cons,Nat.zero_mul];rw[e];simp[hr,<-h0]
 |r0::rows,i+1,r,hf,hr,h=>by
  have h0:r0.length=sz:=hf r0 (by simp);have hf':∀r∈rows,r.length=sz:=λr hr=>hf r (by simp[hr]);have ih:=DG rows i r hf' hr (by simpa using h);have bw:i<rows.length:=by simpa using h
  have hle:i*sz+r.length<=rows.flatten.length:=by
   rw[fy rows hf',hr]
   calc i*sz+sz=(i+1)*sz:=by rw[Nat.succ_mul]
    _<=rows.length*sz:=Nat.mul_le_mul_right _ bw
  have h1:(i+1)*sz=r0.length+i*sz:=by rw[h0,Nat.succ_mul];omega
  simp only[List.set_cons_succ,List.flatten_cons];rw[ih,h1,jM (r0++rows.flatten) _ _ (by rw[List.length_append];omega),jM _ _ _ hle,Nat.add_assoc,List.take_append,List.drop_append];simp[List.append_assoc,show r0.length+i*sz-r0.length=i*sz by omega,show r0.length+(i*sz+r.length)-r0.length=i*sz+r.length by omega,List.take_of_length_le,List.drop_of_length_le]
theorem yh{sz:Nat}:∀(qs:List Nat)(vs:List AV)(rows ee:List (List AV)),(∀r∈rows,r.length=sz)->fW sz rows qs vs=some ee->
  iO rows.flatten (qs.map λi=>(i*sz,sz)) vs=some ee.flatten/\(∀r∈ee,r.length=sz)/\ee.length=rows.length
 |[],[],rows,ee,hf,h=>by simp[fW]at h;subst h;exact⟨rfl,hf,rfl⟩|[],_::_,_,_,_,h=>by simp[fW]at h|_::_,[],_,_,_,h=>by simp[fW]at h|i::qs,v::vs,rows,ee,hf,h=>by
  simp only[fW]at h;split at h;rename_i hc;simp only[Bool.and_eq_true,decide_eq_true_eq]at hc;have hf':∀r∈rows.set i v.cells,r.length=sz:=by
   intro r hr;rcases List.mem_or_eq_of_mem_set hr with h|h;exact hf r h;rw[h];exact hc.1
  obtain⟨e1,e2,e3⟩:=yh qs vs _ ee hf' h;refine⟨?_,e2,by simpa using e3⟩;have hle:i*sz+sz<=rows.flatten.length:=by
   rw[fy rows hf]
   calc i*sz+sz=(i+1)*sz:=by rw[Nat.succ_mul]
    _<=rows.length*sz:=Nat.mul_le_mul_right _ hc.2
  simp only[List.map_cons,iO];rw[if_pos (by simp only[hc.1,decide_true,Bool.true_and,decide_eq_true_eq];exact hle),<-DG rows i v.cells hf hc.1 hc.2];exact e1;cases h
theorem yN(sz n:Nat)(zero:List AV)(hz:zero.length=sz)(eI:0<sz)(k:Nat)(hk:k<n*sz):(List.replicate n zero).flatten[k]?=zero[k % sz]?:=by
 have hi:k / sz<n:=Nat.div_lt_of_lt_mul (by rw[Nat.mul_comm];exact hk);have hj:k % sz<zero.length:=by rw[hz];exact Nat.mod_lt _ eI
 have h:=sP (sz:=sz) (List.replicate n zero) (k / sz) (k % sz) zero zero[k % sz] (λr hr=>by rw[List.eq_of_mem_replicate hr,hz]) (by rw[List.getElem?_replicate,if_pos hi]) (List.getElem?_eq_getElem hj);rw[Nat.mul_comm,Nat.div_add_mod]at h;rw[h,List.getElem?_eq_getElem hj]
theorem AU{sz n:Nat}{zero:List AV}{z:Array Value}(dG:cn w G zero z.toList)(hz:zero.length=sz)(eI:0<sz) :
  cn w G (List.replicate n zero).flatten (((Array.range (n*sz)).map (z[· % z.size]!)).toList):=by
 have hs:z.size=sz:=by rw[<-hz,dG.1];simp
 refine⟨by rw[fy (sz:=sz) _ (λr hr=>by rw[List.eq_of_mem_replicate hr,hz])];simp,λk c v h1 h2=>?_⟩;have hk:k<n*sz:=by
  have:=(List.getElem?_eq_some_iff.1 h2).1;simpa using this
 rw[yN sz n zero hz eI k hk]at h1;have hm:k % sz<z.size:=by rw[hs];exact Nat.mod_lt _ eI
 simp only[Array.toList_map,Array.toList_range,List.getElem?_map,List.getElem?_range hk,Option.map_some,Option.some.injEq,hs]at h2;refine dG.2 _ c v h1 ?_;rw[<-h2,getElem!_pos z (k % sz) hm];simp[hm]
theorem aah{t e:TypeId}{n sz:Nat}{parts:Array (Nat×Operand)}(ho:o.op=.buildSlice t n parts)(hu:P.underlying t=some (.slice e))(eI:cy P e sz=true)(Mz:n*sz<=16777216){zero:List AV}(hz:oG P e zero=true)
  (Xi:0<sz)(Sx:zero.length=sz){qs:List Nat}(hq:parts.toList.map (·.1)=qs){vs:List AV}{rows:List (List AV)}(tZ:fW sz (List.replicate n zero) qs vs=some rows)(hn:0<n)(hv:cn w G vs (parts.toList.map λp=>ρ p.2)) :
  ∃cells,(execOp ρ o).run P w=.ok (.value (.slice (some ⟨w.heap.size,0,none⟩) rows.length n)) (w.alloc (.cells cells e))/\cn w G rows.flatten cells.toList/\(∀b,bU b rows.flatten cells.toList<=bU b vs (parts.toList.map λp=>ρ p.2))/\
   bV sz rows=true/\rows.length=n/\n*sz=cells.size:=by
 obtain⟨i,z,hi,Sr,oo,J1,_⟩:=lV hz w G;obtain⟨i',qK,Ft,_⟩:=lG eI;rw[hi]at qK;cases qK;obtain⟨e1,e2,e3⟩:=yh qs vs _ rows (λr hr=>by rw[List.eq_of_mem_replicate hr,Sx]) tZ;have HU:(parts.map λ(x:Nat×Operand)=>(x.1,ρ x.2)).toList.map (·.2)=parts.toList.map λp=>ρ p.2:=by simp[Function.comp_def]
 obtain⟨cells,f1,f2,f3⟩:=HT (place:=λi=>some (i*sz,sz)) (parts.map λ(x:Nat×Operand)=>(x.1,ρ x.2)).toList _ vs _ _ _ e1 (AU oo Sx Xi) (by rw[HU];exact hv) (by
  intro k p q h1 h2;subst hq;simp only[Array.toList_map,List.getElem?_map,Option.map_eq_some_iff,List.map_map]at h1 h2;obtain⟨p',h1,rfl⟩:=h1;obtain⟨p'',h2,rfl⟩:=h2;rw[h1]at h2;cases h2
  rfl)
 have pE:rows.length=n:=by rw[e3];simp
 have hnz:¬n*i.size=0:=by rw[Ft];have:=Nat.mul_pos hn Xi;omega
 have:=run_buildSlice w t e n (parts.map λ(x:Nat×Operand)=>(x.1,ρ x.2)) cells i z hu hi Sr (by rw[Ft];omega) hnz (by rw[Ft];exact f1);refine⟨cells,?_,f2,λb=>?_,cq.2 e2,pE,?_⟩;simp only[execOp,ho,Sem.run_bind,this,Result.andThen_ok,Sem.run_pure,pE];have h1:=f3 b;rw[HU]at h1;have h2:bU b (List.replicate n zero).flatten ((Array.range (n*sz)).map (z.cells[· % z.cells.size]!)).toList=0:=by
  refine dy b _ _ ((cA _).2 λc hc=>?_);obtain⟨r,hr,hc⟩:=List.mem_flatten.1 hc;rw[List.eq_of_mem_replicate hr]at hc;exact(J1 c hc).1
 omega;have:=f2.1;rw[fy rows e2,pE]at this;simpa using this
theorem J8{t e:TypeId}{x y:Operand}(ho:o.op=.makeSlice t x y)(hu:P.underlying t=some (.slice e)){sz bytes:Nat}(eI:cy P e sz=true)(Xj:o4 P e bytes=true){zero:List AV}(hz:oG P e zero=true)(Xi:0<sz)(Sx:zero.length=sz)
  {n c:Int}(hx:ρ x=.int .i64 n)(hy:ρ y=.int .i64 c)(h0:0<=n)(h1:n<=c)(h2:c*bytes<=dx)(h3:c<=9223372036854775807) :
  ∃cells,(execOp ρ o).run P w=.ok (.value (.slice (some ⟨w.heap.size,0,none⟩) n.toNat c.toNat)) (w.alloc (.cells cells e))/\cells.size=c.toNat*sz/\
   cn w G (List.replicate n.toNat zero).flatten (cells.toList.take (n.toNat*sz))/\∀b xs,bU b (List.replicate n.toNat zero).flatten xs=0:=by
 obtain⟨i,z,hi,Sr,oo,J1,_⟩:=lV hz w G;obtain⟨i',qK,Ft,_⟩:=lG eI;rw[hi]at qK;cases qK;have hb:i.bytes=bytes:=by simpa [o4,hi] using Xj
 have:=run_make (P:=P) w t e i z hu hi Sr .i64 .i64 n c h0 h1 (by rw[hb,Int.mul_comm];simp only[dx]at h2;omega) h3;refine⟨madeCells z.cells (c.toNat*i.size),by simp only[execOp,ho,hx,hy,Sem.run_bind,this,Result.andThen_ok,Sem.run_pure],by rw[size_madeCells,Ft],?_,λb xs=>?_⟩;have hle:n.toNat*sz<=c.toNat*sz:=Nat.mul_le_mul_right _ (by omega);have h:=AU (w:=w) (G:=G) (n:=c.toNat) oo Sx Xi;have h':=h.take (n.toNat*sz);rw[Ft];unfold madeCells;have e:(List.replicate c.toNat zero).flatten.take (n.toNat*sz)=(List.replicate n.toNat zero).flatten:=by
  have:c.toNat=n.toNat+(c.toNat-n.toNat):=by omega
  rw[this,<-List.replicate_append_replicate,List.flatten_append,List.take_left'];exact fy (sz:=sz) _ (λr hr=>by rw[List.eq_of_mem_replicate hr,Sx]) |>.trans (by simp)
 rw[e]at h';exact h';refine dy b _ _ ((cA _).2 λc hc=>?_);obtain⟨r,hr,hc⟩:=List.mem_flatten.1 hc;rw[List.eq_of_mem_replicate hr]at hc;exact(J1 c hc).1
theorem Xk{st:ai}{bx:aX}(hI:jn w G st)(hB:j5 w G β bx){cO:Nat->Nat}:∃G',jo w G β st bx cO (w.alloc (.map #[] 0)) G' β (st++[.map []]) bx (.val (.map st.length)) (.map (some w.heap.size)):=by
 have hl:(G.new w.heap.size (some 0) [⟨some ⟨w.heap.size,0,none⟩,1,0,0,0,true,[]⟩]).ls[st.length]?=some ⟨some ⟨w.heap.size,0,none⟩,1,0,0,0,true,[]⟩:=by
  simp only[aQ.new];rw[List.getElem?_append_right (by rw[hI.len];exact Nat.le_refl _),hI.len];simp
 refine⟨_,sN (loc:=⟨some ⟨w.heap.size,0,none⟩,1,0,0,0,true,[]⟩) (ao:=.map []) (w':=w.alloc (.map #[] 0)) (ob:=.map #[] 0) rfl rfl rfl hI hB ⟨rfl,rfl,w.heap.size,#[],0,rfl,ry rfl,by simp[aQ.new],rfl,λi k v e h=>by simp at h⟩ (.map _ _ _ hl rfl rfl) rfl λb=>?_⟩;simp only[iJ,lB.jK];by_cases hb:b=w.heap.size;subst hb;simp;simp[hb];rw[if_neg λh=>hb h.symm];omega
end Ax
namespace Ax
open Go
variable {P:Program}{w w':World}{G G':aQ}{β gw:List mS}{ρ:Operand->Value}{o:Oper}
theorem pF{α:Type}{sz:Nat}:∀(rows:List (List α))(k:Nat)(c:α),(∀r∈rows,r.length=sz)->rows.flatten[k]?=some c->∃i j r,k=i*sz+j/\rows[i]?=some r/\r[j]?=some c
 |[],k,c,_,h=>by simp at h|r0::rows,k,c,hf,h=>by
  have h0:r0.length=sz:=hf r0 (by simp);simp only[List.flatten_cons]at h;by_cases hk:k<r0.length;rw[List.getElem?_append_left hk]at h;exact⟨0,k,r0,by simp,rfl,h⟩;rw[List.getElem?_append_right (by omega)]at h;obtain⟨i,j,r,e1,e2,e3⟩:=pF rows _ c (λr hr=>hf r (by simp[hr])) h;exact⟨i+1,j,r,by rw[Nat.succ_mul];omega,by simpa using e2,e3⟩
theorem uL:∀(rows:List (List AV))(vals:List (List Value)),rows.length=vals.length->(∀(i:Nat) r xs,rows[i]?=some r->vals[i]?=some xs->cn w G r xs)->cn w G rows.flatten vals.flatten
 |[],[],_,_=>⟨rfl,λi c v h=>by simp at h⟩
 |[],_::_,h,_=>by simp at h|_::_,[],h,_=>by simp at h|r::rows,x::vals,hl,h=>by
  obtain⟨a1,a2⟩:=h 0 r x rfl rfl;obtain⟨b1,b2⟩:=uL rows vals (by simpa using hl) λi r xs h1 h2=>h (i+1) r xs (by simpa using h1) (by simpa using h2);refine⟨by simp only[List.flatten_cons,List.length_append,a1,b1],λi c v h1 h2=>?_⟩;simp only[List.flatten_cons]at h1 h2;by_cases hi:i<r.length;rw[List.getElem?_append_left hi]at h1;rw[List.getElem?_append_left (by omega)]at h2;exact a2 i c v h1 h2;rw[List.getElem?_append_right (by omega)]at h1;rw[List.getElem?_append_right (by omega),<-a1]at h2;exact b2 _ c v h1 h2
theorem zx(b:Nat):∀(rows:List (List AV))(vals:List (List Value)),rows.length=vals.length->(∀(i:Nat) r xs,rows[i]?=some r->vals[i]?=some xs->r.length=xs.length)->bU b rows.flatten vals.flatten=fL b rows vals
 |[],[],_,_=>rfl|[],_::_,h,_=>by simp at h|_::_,[],h,_=>by simp at h|r::rows,x::vals,hl,h=>by
  simp only[List.flatten_cons,fL];rw[fK b r _ x _ (h 0 r x rfl rfl),zx b rows vals (by simpa using hl) λi r xs h1 h2=>h (i+1) r xs (by simpa using h1) (by simpa using h2)]
theorem cn.append{as bs:List AV}{xs ys:List Value}(h:cn w G as xs)(k:cn w G bs ys):cn w G (as++bs) (xs++ys):=by
 refine⟨by simp[h.1,k.1],λi c v h1 h2=>?_⟩;by_cases hi:i<as.length;rw[List.getElem?_append_left hi]at h1;rw[List.getElem?_append_left (by rw[<-h.1];exact hi)]at h2;exact h.2 i c v h1 h2;rw[List.getElem?_append_right (by omega)]at h1;rw[List.getElem?_append_right (by rw[<-h.1];omega),<-h.1]at h2;exact k.2 _ c v h1 h2
theorem J9{sz:Nat}{rows:List (List AV)}{a:Addr}{n cap:Nat}(h:aS w G (.dc sz rows) (.slice (some a) n cap)) :
  n=rows.length/\a.spot=none/\bV sz rows=true/\(∀r∈rows,AV.dN r=true)/\(∀r∈rows,AV.af r=true)/\(∀r∈rows,AV.aO r=true)/\
  ∃xs:List Value,cn w G rows.flatten xs/\∀(k:Nat) x,xs[k]?=some x->w.cell? ⟨a.block,a.off+k,none⟩=some x:=by
 cases h with
 |dc _ _ _ _ oF fI cI iz pC w9 hc hr=>
 refine⟨rfl,oF,cI,iz,pC,w9,(List.range rows.flatten.length).map λk=>(w.cell? ⟨a.block,a.off+k,none⟩).getD undef,⟨by simp,λk c v h1 h2=>?_⟩,λk x h=>?_⟩;obtain⟨i,j,r,rfl,e2,e3⟩:=pF rows k c (cq.1 cI) h1;obtain⟨_,y,hy⟩:=hc i r j c e2 e3;have hk:=(List.getElem?_eq_some_iff.1 h1).1;rw[List.getElem?_map,List.getElem?_range hk,Option.map_some,hy]at h2;cases h2;exact hr i r j c y e2 e3 hy;have hk:k<rows.flatten.length:=by have:=(List.getElem?_eq_some_iff.1 h).1;simpa using this
 rw[List.getElem?_map,List.getElem?_range hk,Option.map_some]at h;obtain⟨i,j,r,rfl,e2,e3⟩:=pF rows k _ (cq.1 cI) (List.getElem?_eq_getElem hk);obtain⟨_,y,hy⟩:=hc i r j _ e2 e3;rw[hy]at h ⊢;simpa using h
theorem BW(a:AV):a.aa.cL=a.cL:=by cases a<;>simp[AV.aa,AV.cL]
theorem rz:∀(cs:List AV),AV.aO (AV.cJ cs)=AV.aO cs
 |[]=>rfl|c::cs=>by
  have:=rz cs;simp only[AV.aO]at this;simp only[AV.cJ,AV.aO,List.all_cons,BW,this]
theorem yl:∀(rows:List (List AV)),(rows.map AV.cJ).flatten=AV.cJ rows.flatten
 |[]=>rfl|r::rows=>by
  have abu:∀a b:List AV,AV.cJ (a++b)=AV.cJ a++AV.cJ b:=by
   intro a b;induction a with
   |nil=>rfl|cons x a ih=>simp only[List.cons_append,AV.cJ,ih]
  simp only[List.map_cons,List.flatten_cons,abu,yl rows]
theorem Gj(l:List UInt8):(eR l).flatten=l.map λb=>AV.int .u8 b.toNat:=by
 unfold eR;induction l with
 |nil=>rfl|cons b l ih=>simp only[List.map_cons,List.flatten_cons,ih];rfl
theorem xu{st:ai}(hI:jn w G st){a:AV}{v:Value}{rows:List (List AV)}(h:aS w G a v)(hb:cV st a=some rows){sz:Nat}(hf:bV sz rows=true){tx:TypeId}
  (hk:(∃e',P.underlying tx=some (.slice e'))\/P.underlying tx=some .string) :
  ∃xs,cn w G rows.flatten xs/\Go.Src P sz tx v rows.length xs w/\(∀r∈rows,AV.aO r=true)/\(∀r∈rows,AV.dN r=true)/\((∀id b6,a≠.mu id b6)->∀r∈rows,AV.af r=true):=by
 have slice:∀(ad:Addr) (c:Nat) (xs:List Value),ad.spot=none->cn w G rows.flatten xs->(∀(k:Nat) x,xs[k]?=some x->w.cell? ⟨ad.block,ad.off+k,none⟩=some x)->(∀r∈rows,AV.aO r=true)->
   Go.Src P sz tx (.slice (some ad) rows.length c) rows.length xs w:=by
  intro ad c xs oF dG hx iV;have hl:xs.length=rows.length*sz:=by rw[<-dG.1];exact fy rows (cq.1 hf)
  obtain⟨bl,of,sp⟩:=ad;simp only at oF hx;subst oF;have hx':∀j u,xs[j]?=some u->w.cell? ((⟨bl,of,none⟩:Addr).add j)=some u:=λj u h=>by rw[lI];exact hx j u h
  have Sy:∀u∈xs,u.oneCell'=true:=dG.W9 (by
   simp only[AV.aO,List.all_eq_true];intro c hc;obtain⟨r,hr,hc⟩:=List.mem_flatten.1 hc;have:=iV r hr;simp only[AV.aO,List.all_eq_true]at this;exact this c hc)
  exact⟨hk,λ_=>rfl,run_firstCells_some w sz rows.length ⟨bl,of,none⟩ rows.length c xs hl hx',run_firstCells_some w.drew sz rows.length ⟨bl,of,none⟩ rows.length c xs hl (by simpa using hx'),hl,Sy⟩
 have dc:∀s,aS w G (.dc s rows) v->∃xs,cn w G rows.flatten xs/\Go.Src P sz tx v rows.length xs w/\(∀r∈rows,AV.aO r=true)/\(∀r∈rows,AV.dN r=true)/\((∀id b6,a≠.mu id b6)->∀r∈rows,AV.af r=true):=by
  intro s h;have h0:∃a n c,v=.slice (some a) n c:=by cases h;exact⟨_,_,_,rfl⟩
  obtain⟨ad,n,c,rfl⟩:=h0;obtain⟨e1,e2,e3,e4,e5,e6,xs,e7,e8⟩:=J9 h;subst e1;exact⟨xs,e7,slice ad c xs e2 e7 e8 e6,e6,e4,λ_=>e5⟩
 have aai:rows=[]->∀c,v=.slice none 0 c->∃xs,cn w G rows.flatten xs/\Go.Src P sz tx v rows.length xs w/\(∀r∈rows,AV.aO r=true)/\(∀r∈rows,AV.dN r=true)/\((∀id b6,a≠.mu id b6)->∀r∈rows,AV.af r=true):=by
  intro h0 c hv;subst h0;subst hv;exact⟨[],⟨rfl,λi c v h=>by simp at h⟩,⟨hk,λ_=>rfl,run_firstCells_none w sz 0 0 c,run_firstCells_none w.drew sz 0 0 c,by simp,λu hu=>by cases hu⟩,by simp,by simp,by simp⟩
 unfold cV at hb;split at hb
 ·rename_i l;cases hb;obtain⟨s,rfl,rfl⟩:=h.mN;refine⟨byteCells s,?_,?_,?_,?_,?_⟩;rw[Gj];unfold byteCells;refine⟨by simp,λi c v h1 h2=>?_⟩;simp only[List.getElem?_map,Option.map_eq_some_iff]at h1 h2;obtain⟨b,h1,rfl⟩:=h1;obtain⟨b',h2,rfl⟩:=h2;rw[h1]at h2;cases h2;exact .int _ _;have hlen:(eR s.data.toList).length=s.size:=by simp[eR]
  rw[hlen];have one:∀u∈byteCells s,u.oneCell'=true:=λu hu=>by
   obtain⟨_,_,rfl⟩:=List.mem_map.1 hu
   rfl
  by_cases hs:sz=1;subst hs;exact⟨hk,λ_=>rfl,firstCells_string s w,firstCells_string s w.drew,by rw[byteCells_length,Nat.mul_one],one⟩;have h0:s.size=0:=by
   rcases Nat.eq_zero_or_pos s.size with h|h;exact h;have h2:s.data.toList≠[]:=by
    intro h3;have:s.data.toList.length=s.size:=by simp
    rw[h3]at this;simp at this;omega
   obtain⟨b,l,hl⟩:=List.exists_cons_of_ne_nil h2;rw[hl]at hf;simp[bV,eR]at hf;exact absurd hf.1.symm hs
  have Wv:byteCells s=[]:=by
   apply List.eq_nil_of_length_eq_zero;rw[byteCells_length,h0]
  have Xl:∀w',(Builtin.firstCells sz s.size (.string s)).run P w'=.ok (byteCells s).toArray w':=λw'=>firstCells_string s w';exact⟨hk,λ_=>rfl,Xl w,Xl w.drew,by rw[Wv,h0,Nat.zero_mul];rfl,one⟩;all_goals
   intros
   rename_i hr;simp only[eR,List.mem_map]at hr;obtain⟨b,_,rfl⟩:=hr;simp[AV.aO,AV.cL,AV.dN,AV.b9,AV.af,AV.au]
 ·rename_i id b6;split at hb
  ·rename_i ee hr;cases hb;simp only[dD]at hr;split at hr
   ·rename_i v' s akw gi;split at hr
    ·rename_i hv;cases hr;obtain⟨loc,hl,BQ,zu,gY⟩:=hI.loc gi;cases h with
     |mu _ _ _ loc' hp pZ Cp he=>
      rw[hl]at pZ;cases pZ;have hve:b6=loc.b6:=(by omega);have cG:=he hve;rw[gY.len]at cG;have iV:∀r∈ee.map AV.cJ,AV.aO r=true:=λr hr=>by
       obtain⟨r',x6,rfl⟩:=List.mem_map.1 hr;rw[rz];exact gY.CO r' x6
      have iz:∀r∈ee.map AV.cJ,AV.dN r=true:=λr hr=>by
       obtain⟨r',x6,rfl⟩:=List.mem_map.1 hr;exact gf r'
      rcases gY.p0 with⟨h0,tG,_⟩|⟨b,off,c,e',Mu,fI,fj,hle,hlen,iC,dF⟩
      ·subst tG;simp only[List.length_nil]at cG;cases afU:loc.a with
       |none=>
        rw[afU]at cG;exact aai (by simp) _ cG
       |some ad=>
        refine⟨[],⟨rfl,λi c v h=>by simp at h⟩,⟨hk,λ_=>by rw[cG];simp[Builtin.lenOf],?_,?_,by simp,by simp⟩,iV,iz,λh=>absurd rfl (h id b6)⟩;all_goals
         rw[cG,afU];simp[Builtin.firstCells,loadCells,loadCellsFrom]
      rw[Mu]at cG;subst cG;have dG:cn w G (ee.map AV.cJ).flatten loc.vals.flatten:=by
       rw[yl];exact(uL ee loc.vals gY.tE.symm gY.tX).aa
      have Oa:∀r∈loc.vals,r.length=s:=λr hr=>by
       obtain⟨i,hi,rfl⟩:=List.mem_iff_getElem.1 hr;have qK:i<ee.length:=(by rw[<-gY.tE];exact hi);rw[<-(gY.tX i ee[i] loc.vals[i] (List.getElem?_eq_getElem qK) (List.getElem?_eq_getElem hi)).1];exact cq.1 gY.Gg _ (List.getElem_mem qK)
      have:=slice ⟨b,off,none⟩ loc.cap loc.vals.flatten rfl dG (λk x hx=>by
       obtain⟨i,j,r,rfl,e2,e3⟩:=pF loc.vals k x Oa hx;exact dF i r j x e2 e3) iV
      simp only[List.length_map]at this ⊢;exact⟨_,dG,this,iV,iz,λh=>absurd rfl (h id b6)⟩
    cases hr
   cases hr
  cases hb
 ·rename_i hn1 hn2;unfold dD at hb;split at hb;cases hb;cases h;exact aai rfl _ rfl
  ·cases hb;cases h;rename_i ad;refine⟨[],⟨rfl,λi c v h=>by simp at h⟩,⟨hk,λ_=>rfl,?_,?_,by simp,by simp⟩,by simp,by simp,by simp⟩;all_goals simp[Builtin.firstCells,loadCells,loadCellsFrom]
  cases hb;exact dc _ h;cases hb;exact dc _ h.aa;rename_i id b6;exact absurd rfl (hn2 id b6);cases hb
end Ax
namespace Ax
open Go
variable {P:Program}{w w':World}{G G':aQ}{β gw:List mS}{ρ:Operand->Value}{o:Oper}
theorem gQ(g p:Nat)(t:TypeId)(vs:List Value)(dQ:Array Value)(w:World)(hg:w.heap[g]?=some (.cells dQ t (0,0)))(hl:p+vs.length<=dQ.size)(h1:∀v∈vs,v.oneCell'=true) :
  (storeCells ⟨g,p,none⟩ vs).run P w=.ok () (w.setRow g (ah dQ.toList p vs).toArray):=by
 have:=run_storeCells_at P g p t vs 0 dQ w hg (by simpa using hl) h1;rw[jM _ _ _ (by simpa using hl)];simpa using this
structure Wr (w:World)(G:aQ)(w':World)(G':aQ)(b:Nat):Prop where
 size:w'.heap.size=w.heap.size
 heap:∀b',b'≠b->w'.heap[b']?=w.heap[b']?
 Xm:∀b',b'≠b->G'.mj b'=G.mj b'
 mj:∃p p',G.mj b=some p/\G'.mj b=some p'/\p<=p'/\∀o,o<p->w'.cell? ⟨b,o,none⟩=w.cell? ⟨b,o,none⟩
 gX:∀(id:Nat) loc,G.ls[id]?=some loc->∃loc',G'.ls[id]?=some loc'/\loc.b6<=loc'.b6/\(loc.b6=loc'.b6\/loc.mp=true->loc'.hd=loc.hd)
theorem Wr.jj{b:Nat}(h:Wr w G w' G' b):sK w G w' G' where
 Sj:=λb' o hi=>by
  by_cases hb:b'=b;subst hb;obtain⟨p,p',h1,h2,h3,h4⟩:=h.mj;have ho:=hi.2 p h1;refine⟨h4 o ho,by rw[h.size];exact hi.1,λq hq=>?_⟩;rw[h2]at hq;cases hq;omega;refine⟨qu (h.heap b' hb),by rw[h.size];exact hi.1,λp hp=>?_⟩;rw[h.Xm b' hb]at hp;exact hi.2 p hp
 gX:=h.gX
theorem Wr.jl{b b':Nat}(h:Wr w G w' G' b)(hb:b'≠b):dZ w G w' G' b':=⟨h.Xm b' hb,h.heap b' hb⟩
theorem DH(G:aQ):∀(id:Nat) loc,G.ls[id]?=some loc->∃loc',G.ls[id]?=some loc'/\loc.b6<=loc'.b6/\(loc.b6=loc'.b6\/loc.mp=true->loc'.hd=loc.hd):=λ_ loc h=>⟨loc,h,Nat.le_refl _,λ_=>rfl⟩
def aQ.at(G:aQ)(id:Nat)(loc:lB):aQ:=⟨G.ls.set id loc,G.mj⟩
theorem DI{id:Nat}{loc loc':lB}(hl:G.ls[id]?=some loc)(hv:loc.b6<=loc'.b6)(hh:loc.b6=loc'.b6\/loc.mp=true->loc'.hd=loc.hd):∀(i:Nat) l,G.ls[i]?=some l->∃l',(G.at id loc').ls[i]?=some l'/\l.b6<=l'.b6/\(l.b6=l'.b6\/l.mp=true->l'.hd=l.hd):=by
 intro i l h;by_cases hi:i=id;subst hi;rw[hl]at h;cases h;exact⟨loc',by simp only[aQ.at];rw[List.getElem?_set,if_pos rfl,if_pos (List.getElem?_eq_some_iff.1 hl).1],hv,hh⟩;exact⟨l,by simp only[aQ.at];rw[List.getElem?_set,if_neg (λe=>hi e.symm)];exact h,Nat.le_refl _,λ_=>rfl⟩
theorem MA{id:Nat}{loc loc':lB}(hl:G.ls[id]?=some loc)(hv:loc.b6<=loc'.b6)(hh:loc.b6=loc'.b6\/loc.mp=true->loc'.hd=loc.hd):sK w G w (G.at id loc'):=
 ⟨λ_ _ h=>⟨rfl,h⟩,DI hl hv hh⟩
theorem CS{st:ai}(hI:jn w G st)(hs:sK w G w' G'){id:Nat}{loc':lB}{JO:fq}(Sz:G'.ls=G.ls.set id loc')(hu:∀(i:Nat) l ob b,i≠id->G.ls[i]?=some l->st[i]?=some ob->0<iJ b l ob->dZ w G w' G' b)
  (ua:p6 w' G' JO loc')(ht:∀b p,G'.mj b=some p->b<w'.heap.size):jn w' G' (st.set id JO) where
 len:=by rw[Sz];simp[hI.len]
 bC:=λi ob loc h1 h2=>by
  rw[Sz]at h2;rw[List.getElem?_set]at h1 h2;by_cases hi:id=i;subst hi;rw[if_pos rfl]at h1 h2;split at h1;split at h2;cases h1;cases h2;exact ua;cases h2;cases h1;rw[if_neg hi]at h1 h2;exact(hI.bC i ob loc h1 h2).jj hs λb hb=>hu i loc ob b (λe=>hi e.symm) h2 h1 hb
 mT:=ht
theorem wo{st:ai}(hI:jn w G st)(hs:sK w G w' G')(Sz:G'.ls=G.ls)(hu:∀b,0<cj b G.ls st->dZ w G w' G' b)(ht:∀b p,G'.mj b=some p->b<w'.heap.size):jn w' G' st where
 len:=by rw[Sz];exact hI.len
 bC:=λi ob loc h1 h2=>by
  rw[Sz]at h2;refine(hI.bC i ob loc h1 h2).jj hs λb hb=>hu b ?_;have:=nI b G.ls st i loc ob h2 h1;omega
 mT:=ht
theorem nj{bx:aX}(hB:j5 w G β bx)(hs:sK w G w' G')(hu:∀b,0<fR b β bx->dZ w G w' G' b):j5 w' G' β bx where
 len:=hB.len
 box:=λj aG g h1 h2=>(hB.box j aG g h1 h2).jj hs λb hb=>hu b (by
  have:=nJ b β bx j g aG h2 h1;omega)
theorem Wr.mT{b:Nat}{st:ai}(h:Wr w G w' G' b)(hI:jn w G st):∀b p,G'.mj b=some p->b<w'.heap.size:=by
 intro b' p hp;rw[h.size];by_cases hb:b'=b;subst hb;obtain⟨q,q',h1,_⟩:=h.mj;exact hI.mT _ _ h1;rw[h.Xm b' hb]at hp;exact hI.mT _ _ hp
theorem DJ{b p p':Nat}{dQ:Array Value}{e:TypeId}{q:Nat}{vs:List Value}{ls:List lB}(hg:w.heap[b]?=some (.cells dQ e (0,0)))(hl:q+vs.length<=dQ.size)(ht:G.mj b=some p)(Ob:p<=q)(hpp:p<=p')
  (FA:∀(id:Nat) loc,G.ls[id]?=some loc->∃loc',ls[id]?=some loc'/\loc.b6<=loc'.b6/\(loc.b6=loc'.b6\/loc.mp=true->loc'.hd=loc.hd)) :
  Wr w G (w.setRow b (ah dQ.toList q vs).toArray) ⟨ls,λb'=>if b'=b then some p' else G.mj b'⟩ b where
 size:=setRow_size _ _ _
 heap:=λb' hb=>setRow_other w b b' _ hb
 Xm:=λb' hb=>by simp[hb]
 mj:=⟨p,p',ht,by simp,hpp,λo ho=>by
  rw[cell_setRow_same w b o dQ _ e (0,0) hg];have:w.cell? ⟨b,o,none⟩=dQ[o]?:=by simp[World.cell?,hg]
  rw[this,List.getElem?_toArray,jk _ _ _ _ (by simpa using hl),if_neg (by omega)];simp⟩
 gX:=FA
theorem sQ{b q k:Nat}{dQ:Array Value}{e:TypeId}{vs:List Value}(hg:w.heap[b]?=some (.cells dQ e (0,0)))(hl:q+vs.length<=dQ.size) :
  (w.setRow b (ah dQ.toList q vs).toArray).cell? ⟨b,k,none⟩=if q<=k/\k<q+vs.length then vs[k-q]? else w.cell? ⟨b,k,none⟩:=by
 rw[cell_setRow_same w b k dQ _ e (0,0) hg];have:w.cell? ⟨b,k,none⟩=dQ[k]?:=by simp[World.cell?,hg]
 rw[this,List.getElem?_toArray,jk _ _ _ _ (by simpa using hl)];simp
structure MB (P:Program)(t tx e:TypeId)(sz bytes:Nat)(i:TypeInfo)(z:Value):Prop where
 ht:P.underlying t=some (.slice e)
 hi:P.info? e=some i
 hz:i.zero=some z
 eI:i.size=sz
 Xj:i.bytes=bytes
 Sq:z.cells.size=sz
 pos:0<sz
 SA:0<bytes
 kind:(∃e',P.underlying tx=some (.slice e'))\/P.underlying tx=some .string
theorem Oc{n bytes:Nat}(h:n*bytes<=140737488355328)(hb:0<bytes):((n:Nat):Int)<=9223372036854775807:=by
 have:n<=n*bytes:=Nat.le_mul_of_pos_right n hb;omega
theorem rA{t tx ty e:TypeId}{sz bytes:Nat}{i:TypeInfo}{z:Value}(h:MB P t tx e sz bytes i z)(b off gp kj:Nat)(dQ:Array Value)(e0:TypeId)(hg:w.heap[b]?=some (.cells dQ e0 (0,0)))(x:Value)(n:Nat)(news:List Value)(hs:Go.Src P sz tx x n news w)
  (sR:gp+n<=kj)(cI:off+kj*sz<=dQ.size) :
  (Builtin.append_ #[t,tx] ty #[.slice (some ⟨b,off,none⟩) gp kj,x]).run P w=.ok (.slice (some ⟨b,off,none⟩) (gp+n) kj) (w.setRow b (ah dQ.toList (off+gp*sz) news).toArray):=by
 have hle:off+gp*sz+news.length<=dQ.size:=by
  rw[hs.newsLen];have:(gp+n)*sz<=kj*sz:=Nat.mul_le_mul_right _ sR;rw[Nat.add_mul]at this;omega
 have gi:=gQ (P:=P) b (off+gp*sz) e0 news dQ w hg hle hs.one;have hc:=hs.cells;have eI:=h.eI;subst eI;rcases hs.kind with⟨e',hk⟩|hk<;>simp[Builtin.append_,run_underlying h.ht,run_underlying hk,Go.sizeOf,typeInfo,h.hi,hs.len,sR,hc,Addr.add_lit,gi]
theorem rB{t tx ty e:TypeId}{sz bytes:Nat}{i:TypeInfo}{z:Value}(h:MB P t tx e sz bytes i z)(base:Option Addr)(gp kj:Nat)(olds:List Value)
  (hold:(Builtin.firstCells sz gp (.slice base gp kj)).run P w.drew=.ok olds.toArray w.drew)(Qp:olds.length=gp*sz)(x:Value)(n:Nat)(news:List Value)(hs:Go.Src P sz tx x n news w)
  (hg:kj<gp+n) (hb:(gp+n)*bytes<=140737488355328) :
  ∃cap c,(Builtin.append_ #[t,tx] ty #[.slice base gp kj,x]).run P w=.ok (.slice (some ⟨w.heap.size,0,none⟩) (gp+n) cap) (w.drew.alloc (.cells c e))/\gp+n<=cap/\cap*sz<=c.size/\
   ∀(k:Nat) v,(olds++news)[k]?=some v->c[k]?=some v:=by
 have eI:=h.eI;subst eI;have Xj:=h.Xj;subst Xj;refine⟨_,_,run_append_grow_src w t tx ty e i z h.ht h.hi h.hz base gp kj olds hold x n news hs hg (Oc hb h.SA) (growslice_fits hg hb),grownCap_ge _ _ _ _,?_,λk v hv=>?_⟩;have h1:=grownCap_ge w (gp+n) kj e;rw[Array.size_append,size_zeroCells,h.Sq];simp only[List.size_toArray,List.length_append,Qp,hs.newsLen];rw[<-Nat.add_mul,<-Nat.add_mul];exact Nat.mul_le_mul_right _ (by omega);have hk:=(List.getElem?_eq_some_iff.1 hv).1;rw[Array.getElem?_append,if_pos (by simpa using hk)];simpa using hv
theorem Gk(a:Addr):w.drew.cell? a=w.cell? a:=rfl
theorem cn.FB{rows:List (List AV)}(h:∀r∈rows,AV.aO r=true):AV.aO rows.flatten=true:=by
 simp only[AV.aO,List.all_eq_true];intro c hc;obtain⟨r,hr,hc⟩:=List.mem_flatten.1 hc;have:=h r hr;simp only[AV.aO,List.all_eq_true]at this;exact this c hc
theorem wu{sz:Nat}{a b:List (List AV)}(h:bV sz a=true)(k:bV sz b=true):bV sz (a++b)=true:=by
 rw[cq]at *;intro r hr;rcases List.mem_append.1 hr with h'|h';exact h r h';exact k r h'
theorem o5{a b:List (List AV)}{p:List AV->Prop}(h:∀r∈a,p r)(k:∀r∈b,p r):∀r∈a++b,p r:=by
 intro r hr;rcases List.mem_append.1 hr with h'|h';exact h r h';exact k r h'
theorem SB{t tx ty e:TypeId}{sz bytes:Nat}{i:TypeInfo}{z:Value}(h:MB P t tx e sz bytes i z){st:ai}{bx:aX}(hI:jn w G st)(hB:j5 w G β bx){cO:Nat->Nat}(hX:∀b,cO b+fR b β bx+cj b G.ls st<=1)
  {s x:AV}{vs vx:Value}(hs:aS w G s vs)(hx:aS w G x vx)(qv:∀b,fG b s vs<=cO b){wl J:Nat}{st':ai}{fH:aX}{r:eO}(ha:aP wl J (.append sz bytes) [.val s,.val x] st bx=some (r,st',fH)) :
  ∃v w' G',(Builtin.append_ #[t,tx] ty #[vs,vx]).run P w=.ok v w'/\jo w G β st bx cO w' G' β st' fH r v:=by
 simp only[aP]at ha;split at ha;cases ha
 ·rename_i new ua;split at ha
  ·rename_i cI;have hnm:∀id b6,x≠.mu id b6:=by
    intro id b6 hx;subst hx;simp[cV,dD]at ua
   have afW:cV st x=some new:=by
    unfold cV at ua ⊢;cases x<;>simp_all [dD]
   obtain⟨news,dG,oq,iV,iz,pC⟩:=xu hI hx afW cI h.kind;have pC:=pC hnm;have fresh:∀base,(Builtin.firstCells sz 0 (.slice base 0 0)).run P w.drew=.ok ([]:List Value).toArray w.drew->new≠[]->new.length*bytes<=dx->
     ∃v w' G',(Builtin.append_ #[t,tx] ty #[.slice base 0 0,vx]).run P w=.ok v w'/\jo w G β st bx cO w' G' β st bx (.val (.lA sz new)) v:=by
    intro base hf iR hr;have hn:0<new.length:=List.length_pos_iff.2 iR;obtain⟨cap,c,e1,e2,e3,e4⟩:=rB (ty:=ty) h base 0 0 [] hf (by simp) vx new.length news oq (by omega) (by simpa [dx] using hr);simp only[Nat.zero_add,List.nil_append]at e1 e2 e4;obtain⟨G',hA⟩:=HY (w':=w.drew.alloc (.cells c e)) (cO:=cO) hI hB rfl rfl rfl cI iV iz pC dG e3 e2 e4;exact⟨_,_,G',e1,hA⟩
   split at ha;split at ha;rename_i AW;cases ha;have h0:new=[]:=(by simpa using AW);subst h0;cases hs;have hn:news=[]:=by
    have:=dG.1;simp at this;exact List.eq_nil_of_length_eq_zero this.symm
   subst hn;have:=run_append_nothing w t tx ty e i h.ht h.hi none 0 0 (Nat.le_refl _) vx (by rw[h.eI];exact oq);exact⟨_,_,_,this,jo.ni hI hB (aS.U) λb=>by simp[cx,fG]⟩;rename_i AW;split at ha;rename_i hr;cases ha;cases hs;exact fresh none (run_firstCells_none _ _ _ _ _) (by simpa using AW) hr;cases ha
   ·split at ha
    ·rename_i AW;cases ha;have h0:new=[]:=(by simpa using AW);subst h0;have hn:news=[]:=by
      have:=dG.1;simp at this;exact List.eq_nil_of_length_eq_zero this.symm
     subst hn;cases hs with
     |lU a=>
     have:=run_append_nothing w t tx ty e i h.ht h.hi (some a) 0 0 (Nat.le_refl _) vx (by rw[h.eI];exact oq);exact⟨_,_,_,this,jo.ni hI hB (aS.lU a) λb=>by simp[cx,fG]⟩
    ·rename_i AW;split at ha
     ·rename_i hr;cases ha;cases hs with
      |lU a=>
      exact fresh (some a) (by simp[Builtin.firstCells,loadCells,loadCellsFrom]) (by simpa using AW) hr
     cases ha
   ·rename_i jw old;split at ha
    ·rename_i hc;simp only[Bool.and_eq_true,decide_eq_true_eq]at hc;obtain⟨rfl,hr⟩:=hc;cases ha;have hv:=hs.aa;cases hs with
     |lA _ _ a cap oF fI hfo abv afX afY Wv hr0 iC fD=>
     simp only[AV.aa]at hv;obtain⟨_,_,_,_,_,_,olds,hro,hxo⟩:=J9 hv;obtain⟨b,off,sp⟩:=a;simp only at oF iC fD hxo;subst oF;have Qp:olds.length=old.length*jw:=(by rw[<-hro.1];exact fy old (cq.1 hfo));have Mk:news.length=new.length*jw:=oq.newsLen;have jG:=wu hfo cI;have sS:(old++new).flatten=old.flatten++new.flatten:=List.flatten_append;by_cases sR:old.length+new.length<=cap;obtain⟨c,e0,hg,aaj⟩:=fD;have hle:off+old.length*jw+news.length<=c.size:=by
      rw[Mk];have:(old.length+new.length)*jw<=cap*jw:=Nat.mul_le_mul_right _ sR;rw[Nat.add_mul]at this;omega
     have e1:=rA (ty:=ty) h b off old.length cap c e0 hg vx new.length news oq sR aaj;have hW:Wr w G (w.setRow b (ah c.toList (off+old.length*jw) news).toArray) ⟨G.ls,λb'=>if b'=b then some (off+(old++new).length*jw) else G.mj b'⟩ b:=
      DJ hg hle iC (Nat.le_refl _) (by rw[List.length_append,Nat.add_mul];omega) (DH G)
     have mz:cO b=1/\fR b β bx=0/\cj b G.ls st=0:=by
      have h1:=hX b;have h2:=qv b;simp only[fG,if_true]at h2;omega
     have Ka:∀b',b'≠b->dZ w G _ _ b':=λb' hb=>hW.jl hb;refine⟨_,_,⟨G.ls,λb'=>if b'=b then some (off+(old++new).length*jw) else G.mj b'⟩,e1,?_⟩;have af0:cn (w.setRow b (ah c.toList (off+old.length*jw) news).toArray) ⟨G.ls,λb'=>if b'=b then some (off+(old++new).length*jw) else G.mj b'⟩ (old++new).flatten (olds++news):=by
      rw[sS];refine(hro.append dG).mono hW.jj λb' nD=>?_;rw[<-sS,dy b' _ _ ((cA _).2 λx hx=>?_)]at nD;omega;obtain⟨r,hr,hx⟩:=List.mem_flatten.1 hx;exact(cA r).1 (o5 abv iz r hr) x hx
     have fj:=setRow_heap w b c (ah c.toList (off+old.length*jw) news).toArray e0 (0,0) hg;have hrv:=HX (cap:=cap) jG (o5 afY iV) (o5 abv iz) (o5 afX pC) af0 fj (by rw[List.size_toArray,dL];simpa using aaj) (by simpa using sR) (by simp) (λk x hk=>by
      rw[List.getElem?_toArray,jk _ _ _ _ (by simpa using hle)];by_cases Kc:k<olds.length;rw[List.getElem?_append_left Kc]at hk;rw[if_neg (by omega)];have:=hxo k x hk;simpa [World.cell?,hg] using this;rw[List.getElem?_append_right (by omega)]at hk;have bw:=(List.getElem?_eq_some_iff.1 hk).1;rw[if_pos (by omega)];rw[show off+k-(off+old.length*jw)=k-olds.length by omega];exact hk)
     refine⟨hW.jj,wo hI hW.jj rfl (λb' nD=>Ka b' ?_) (hW.mT hI),nj hB hW.jj λb' nD=>Ka b' ?_,by rw[<-List.length_append];exact hrv,λb'=>?_,λb' nD _=>Ka b' ?_,by simp,rfl,rfl⟩;intro e;subst e;omega;intro e;subst e;omega;have h2:=qv b';simp only[fG]at h2;simp only[cx,fG];omega;intro e;subst e;omega;have x6:(old.length+new.length)*bytes<=140737488355328:=hr;have hf:(Builtin.firstCells jw old.length (.slice (some ⟨b,off,none⟩) old.length cap)).run P w.drew=.ok olds.toArray w.drew:=
      run_firstCells_some w.drew jw old.length ⟨b,off,none⟩ old.length cap olds Qp (λj v hj=>by rw[lI,Gk];exact hxo j v hj)
     obtain⟨Qq,c,e1,e2,e3,e4⟩:=rB (ty:=ty) h (some ⟨b,off,none⟩) old.length cap olds hf Qp vx new.length news oq (by omega) x6;rw[<-List.length_append]at e1 e2;obtain⟨G',hA⟩:=HY (w':=w.drew.alloc (.cells c e)) (cO:=cO) hI hB rfl rfl rfl jG (o5 afY iV) (o5 abv iz) (o5 afX pC) (by rw[sS];exact hro.append dG) e3 e2 e4;exact⟨_,_,G',e1,hA⟩
    cases ha
   cases ha
  cases ha
end Ax
