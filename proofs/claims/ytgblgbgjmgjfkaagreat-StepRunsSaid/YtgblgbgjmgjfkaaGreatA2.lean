/- The library of this proof, part 2: an abstract interpreter of the loaded code, and its soundness. -/
import Derived.Test.YtgblgbgjmgjfkaaGreatA1
import Derived.Laws.Tables
import Derived.Laws.Cells
import Derived.Laws.CopyRow
import Derived.Great.BuildSlice
import Derived.Laws.MakeOwn
import Derived.Carry
import Derived.Deep.Upon

namespace Ax
open Go
variable {P:Program}{w:World}{G:Ghost}{β:List BxG}{ρ:Operand->Value}{o:Oper}
theorem call_args1{c:Call}{x:Operand}(h:c.args.toList=[x]):c.args = #[x]:=by
 have:=congrArg List.toArray h;simpa using this
theorem call_args2{c:Call}{x y:Operand}(h:c.args.toList=[x,y]):c.args = #[x,y]:=by
 have:=congrArg List.toArray h;simpa using this
theorem q_max{c:Call}(ho:o.op=.call c)(hc:c.callee=.builtin .max){x y:Operand}(hx:c.args.toList=[x,y]){k:IntKind}{a b:Int}
  (ha:RepV w G (.int k a) (ρ x))(hb:RepV w G (.int k b) (ρ y)):(execOp ρ o).run P w=.ok (.value (.int k (if b > a then b else a))) w:=by
 simp only[execOp,ho,resolve,hc,Sem.run_bind,Sem.run_pure,Result.andThen_ok,invoke,builtin,call_args2 hx]
 simp[Builtin.max_,Builtin.max2,ha.int_inv,hb.int_inv]
theorem q_min{c:Call}(ho:o.op=.call c)(hc:c.callee=.builtin .min){x y:Operand}(hx:c.args.toList=[x,y]){k:IntKind}{a b:Int}
  (ha:RepV w G (.int k a) (ρ x))(hb:RepV w G (.int k b) (ρ y)):(execOp ρ o).run P w=.ok (.value (.int k (if b<a then b else a))) w:=by
 simp only[execOp,ho,resolve,hc,Sem.run_bind,Sem.run_pure,Result.andThen_ok,invoke,builtin,call_args2 hx]
 simp[Builtin.min_,Builtin.min2,ha.int_inv,hb.int_inv]
theorem q_nilCheck{x:Operand}(ho:o.op=.nilCheck x){a:Addr}(hx:ρ x=.pointer (some a)):(execOp ρ o).run P w=.ok (.value (ρ x)) w:=by
 simp only[execOp,ho,hx];rfl
theorem q_extract{x:Operand}{i:Nat}(ho:o.op=.extract x i){vs:List AV}{v:AV}(hv:vs[i]?=some v)(ha:RepV w G (.tup vs) (ρ x)) :
  ∃u,(execOp ρ o).run P w=.ok (.value u) w/\RepV w G v u/\∀b,cnt b v u<=cnt b (.tup vs) (ρ x):=by
 generalize hx:ρ x=xv at ha
 cases ha with
 |tup _ us hl hh=>
  have hi:i<vs.length:=(List.getElem?_eq_some_iff.1 hv).1
  have hi':i<us.size:=by omega
  refine⟨us[i],?_,hh i v us[i] hv (by simp[hi']),fun b=>?_⟩
  ·simp only[execOp,ho,hx]
   simp[Instr.extract,hi']
  ·simp only[cnt]
   exact cntL_get b vs us.toList i v us[i] hv (by simp[hi'])
theorem cut_some{cs r:List AV}{k n:Nat}(h:cut cs k n=some r):r=(cs.drop k).take n/\k+n<=cs.length/\r.length=n:=by
 unfold cut at h
 split at h
 ·cases h;exact⟨rfl,by assumption,by simp;omega⟩
 ·cases h
theorem isAggT_run{t:TypeId}{b:Bool}(h:isAggT P t=some b)(w:World):(isAgg t).run P w=.ok b w:=by
 unfold isAggT at h
 split at h
 ·rename_i hu;cases h;simp[isAgg,run_underlying hu]
 ·rename_i hu;cases h;simp[isAgg,run_underlying hu]
 ·rename_i d h1 h2 hu
  cases h
  cases d<;>simp_all [isAgg,run_underlying hu]
 ·cases h
theorem one_agg{agg:Bool}{r:List AV}{v:AV}(h:oneOrAgg agg r=some v){xs:List Value}(hx:RepC w G r xs) :
  ∃u,(if agg then .agg xs.toArray else xs.headD undef)=u/\RepV w G v u/\(∀b,cnt b v u=cntL b r xs)/\(agg=false->∃c x,r=[c]/\xs=[x]/\v=c/\u=x):=by
 refine⟨_,rfl,?_⟩
 unfold oneOrAgg at h
 cases agg with
 |true=>
  simp only[if_true,Option.some.injEq]at h
  subst h
  refine⟨.agg _ _ (by simpa using hx.1) fun i c v hc hv=>hx.2 i c v hc (by simpa using hv),fun b=>by simp[cnt],by simp⟩
 |false=>
  simp only[Bool.false_eq_true,if_false]at h
  split at h
  ·rename_i c
   cases h
   match xs,hx with
   |[x],hx=>exact⟨hx.2 0 v x rfl rfl,fun b=>by simp[cntL],fun _=>⟨v,x,rfl,rfl,rfl,rfl⟩⟩
   |[],hx=>simp[RepC]at hx
   |_::_::_,hx=>simp[RepC]at hx
  ·cases h
theorem arr_cut(vs:Array Value)(off n:Nat):vs.extract off (off+n)=((vs.toList.drop off).take n).toArray:=by
 apply Array.ext'
 simp[Array.toList_extract,List.extract]
theorem q_field{t:TypeId}{x:Operand}{f:Nat}(ho:o.op=.field t x f){fs:Array Field}{fd:Field}(hu:P.underlying t=some (.struct fs))(hf:fs[f]?=some fd){off n:Nat}{agg:Bool}
  (hoff:fd.offset=off)(hn:cellsIs P fd.type n=true)(hagg:isAggT P fd.type=some agg){cs r:List AV}{v:AV}(hc:cut cs off n=some r)(hv:oneOrAgg agg r=some v)
  (ha:RepV w G (.agg cs) (ρ x)):∃u,(execOp ρ o).run P w=.ok (.value u) w/\RepV w G v u/\∀b,cnt b v u<=cnt b (.agg cs) (ρ x):=by
 generalize hx:ρ x=xv at ha
 cases ha with
 |agg _ vs hl hh=>
  obtain⟨rfl,hle,hlen⟩:=cut_some hc
  have hC:RepC w G cs vs.toList:=⟨by simpa using hl,fun i c v h1 h2=>hh i c v h1 (by simpa using h2)⟩
  have hR:=(hC.drop off).take n
  obtain⟨u,hu',h1,h2,h3⟩:=one_agg hv hR
  refine⟨u,?_,h1,fun b=>?_⟩
  ·simp only[execOp,ho,hx]
   simp only[Instr.field,Sem.run_bind,run_underlying hu,Result.andThen_ok,hf,asAgg,Sem.run_pure,part,isAggT_run hagg,hoff]
   cases agg with
   |true=>
    simp only[if_true]at hu'
    subst hu'
    simp[run_sizeOf_is hn,arr_cut]
   |false=>
    obtain⟨c,y,e1,e2,e3,e4⟩:=h3 rfl
    have hy:vs[off]?=some y:=by
     have:=congrArg (·[0]?) e2
     simp only[List.getElem?_take,List.getElem?_drop]at this
     split at this
     ·simpa using this
     ·simp at this
    simp[hy,e4]
  ·rw[h2]
   simp only[cnt]
   have a1:=cntL_take b n (cs.drop off) (vs.toList.drop off) (by simp;omega)
   have a2:=cntL_drop b off cs vs.toList (by simpa using hl)
   omega
theorem fill_ok{place:Nat->Option (Nat×Nat)}:∀(ps:List (Nat×Value))(qs:List (Nat×Nat))(vs:List AV)(zero cs:List AV)(zc:Array Value),fillCells zero qs vs=some cs->RepC w G zero zc.toList->
  RepC w G vs (ps.map (·.2))->(∀(i:Nat) p q,ps[i]?=some p->qs[i]?=some q->place p.1=some q)->
  ∃cells,Instr.fill place zc ps=some cells/\RepC w G cs cells.toList/\∀b,cntL b cs cells.toList<=cntL b zero zc.toList+cntL b vs (ps.map (·.2))
 |[],qs,vs,zero,cs,zc,h,hz,hv,hp=>by
  cases vs with
  |nil=>
   cases qs with
   |nil=>simp[fillCells]at h;subst h;exact⟨zc,rfl,hz,fun b=>by omega⟩
   |cons q qs=>simp[fillCells]at h
  |cons v vs=>simp[RepC]at hv
 |p::ps,qs,vs,zero,cs,zc,h,hz,hv,hp=>by
  cases vs with
  |nil=>simp[RepC]at hv
  |cons v vs=>
   cases qs with
   |nil=>simp[fillCells]at h
   |cons q qs=>
    obtain⟨off,n⟩:=q
    simp only[fillCells]at h
    split at h
    ·rename_i hc
     simp only[Bool.and_eq_true,decide_eq_true_eq]at hc
     obtain⟨hcl,hoff⟩:=hc
     have hpl:=hp 0 p (off,n) rfl rfl
     have hrv:RepV w G v p.2:=hv.2 0 v p.2 rfl rfl
     obtain⟨hcc,hcn⟩:=hrv.cells
     have hsz:p.2.cells.size=n:=by have:=hcc.1;simp at this;omega
     have hzs:zc.size=zero.length:=by have:=hz.1;simp at this;omega
     have hfp:=fold_paste off p.2.cells.toList zc (by simp;omega)
     have hz':RepC w G (paste zero off v.cells) (paste zc.toList off p.2.cells.toList):=hz.paste hcc (by omega)
     have hvs:RepC w G vs (ps.map (·.2)):=⟨by have:=hv.1;simpa using this,fun i c x h1 h2=>hv.2 (i+1) c x (by simpa using h1) (by simpa using h2)⟩
     have step:Instr.fill place zc (p::ps)=Instr.fill place (p.2.cells.zipIdx.foldl (fun cs (c,j)=>cs.setIfInBounds (off+j) c) zc) ps:=by
      obtain⟨pi,pv⟩:=p
      simp only[Instr.fill]
      rw[hpl]
      simp only
      rw[if_neg (by simp at hsz ⊢;omega)]
     simp only[Array.toArray_toList]at hfp
     obtain⟨cells,e1,e2,e3⟩:=fill_ok ps qs vs (paste zero off v.cells) cs _ h (by rw[hfp];exact hz') hvs (fun i p q h1 h2=>hp (i+1) p q (by simpa using h1) (by simpa using h2))
     refine⟨cells,step.trans e1,e2,fun b=>?_⟩
     have h3:=e3 b
     rw[hfp]at h3
     have h4:=cntL_paste b zero v.cells zc.toList p.2.cells.toList off hz.1 hcc.1 (by omega)
     have h5:=hcn b
     simp only[List.map_cons,cntL]
     omega
    ·cases h
theorem partsAre_ok{fs:Array Field}:∀{ps:List (Nat×Operand)}{qs:List (Nat×Nat)},partsAre P fs ps qs=true->ps.length=qs.length/\
  ∀(i:Nat) p q,ps[i]?=some p->qs[i]?=some q->∃f,fs[p.1]?=some f/\f.offset=q.1/\cellsIs P f.type q.2=true
 |[],[],_=>⟨rfl,fun i p q h _=>by simp at h⟩
 |(j,x)::ps,(off,n)::qs,h=>by
  simp only[partsAre,Bool.and_eq_true]at h
  obtain⟨h1,h2⟩:=h
  obtain⟨e1,e2⟩:=partsAre_ok h2
  refine⟨by simp[e1],fun i p q hp hq=>?_⟩
  cases i with
  |zero=>
   simp at hp hq
   subst hp;subst hq
   split at h1
   ·rename_i f hf
    simp only[Bool.and_eq_true,beq_iff_eq]at h1
    exact⟨f,hf,h1.1,h1.2⟩
   ·cases h1
  |succ i=>exact e2 i p q (by simpa using hp) (by simpa using hq)
 |[],_::_,h=>by simp[partsAre]at h
 |_::_,[],h=>by simp[partsAre]at h
theorem zeroIs_ok{t:TypeId}{zero:List AV}(h:zeroIs P t zero=true)(w:World)(G:Ghost) :
  ∃i z,P.info? t=some i/\i.zero=some z/\RepC w G zero z.cells.toList/\(∀c∈zero,c.noOwn=true/\c.isPure=true)/\AV.allCells zero=true:=by
 unfold zeroIs at h
 split at h
 ·rename_i i hi
  split at h
  ·rename_i z hz
   simp only[Bool.and_eq_true]at h
   obtain⟨e1,e2,e3⟩:=constsAre_ok w G h.1
   exact⟨i,z,hi,hz,⟨e1,e2⟩,e3,h.2⟩
  ·cases h
 ·cases h
theorem q_build{t:TypeId}{parts:Array (Nat×Operand)}(ho:o.op=.build t parts){fs:Array Field}(hu:P.underlying t=some (.struct fs)){is:List TypeInfo}(his:fs.toList.mapM (fun f=>P.info? f.type)=some is)
  {zero:List AV}{qs:List (Nat×Nat)}(hz:zeroIs P t zero=true)(hp:partsAre P fs parts.toList qs=true){vs cs:List AV}(hc:fillCells zero qs vs=some cs)
  (hv:RepC w G vs (parts.toList.map fun p=>ρ p.2)):∃u,(execOp ρ o).run P w=.ok (.value u) w/\RepV w G (.agg cs) u/\∀b,cnt b (.agg cs) u<=cntL b vs (parts.toList.map fun p=>ρ p.2):=by
 obtain⟨i,z,hi,hiz,hzr,hzn,_⟩:=zeroIs_ok hz w G
 obtain⟨hpl,hpp⟩:=partsAre_ok hp
 have hplaces:fs.toList.mapM (fun f=>(P.info? f.type).map fun i=>(f.offset,i.size))=some (List.zipWith (fun f i=>(f.offset,i.size)) fs.toList is)/\fs.toList.length=is.length/\∀(k:Nat) f j,fs.toList[k]?=some f->is[k]?=some j->P.info? f.type=some j:=by
  generalize fs.toList=l at his
  induction l generalizing is with
  |nil=>simp at his;subst his;exact⟨rfl,rfl,fun k f j h _=>by simp at h⟩
  |cons f l ih=>
   rw[List.mapM_cons]at his
   simp only[bind,Option.bind_eq_some_iff,pure,Option.some.injEq]at his
   obtain⟨j,hj,is',his',rfl⟩:=his
   obtain⟨a1,a2,a3⟩:=ih his'
   refine⟨?_,by simp[a2],fun k g j' h1 h2=>?_⟩
   ·rw[List.mapM_cons,a1];simp[hj]
   ·cases k with
    |zero=>simp at h1 h2;subst h1;subst h2;exact hj
    |succ k=>simp at h1 h2;exact a3 k g j' h1 h2
 obtain⟨hm,hlen,hget⟩:=hplaces
 have hmap:(parts.map fun (x:Nat×Operand)=>(x.1,ρ x.2)).toList.map (·.2)=parts.toList.map fun p=>ρ p.2:=by simp[Function.comp_def]
 obtain⟨cells,e1,e2,e3⟩:=fill_ok (place:=((List.zipWith (fun (f:Field) (i:TypeInfo)=>(f.offset,i.size)) fs.toList is).toArray[·]?)) (parts.map fun (x:Nat×Operand)=>(x.1,ρ x.2)).toList qs vs zero cs z.cells hc hzr
  (by rw[hmap];exact hv) (by
   intro k p q h1 h2
   simp only[Array.toList_map,List.getElem?_map,Option.map_eq_some_iff]at h1
   obtain⟨p',h1,rfl⟩:=h1
   obtain⟨f,g1,g2,g3⟩:=hpp k p' q h1 h2
   obtain⟨j,g4,g5,_⟩:=info_cells g3
   have hf:fs.toList[p'.1]?=some f:=by simpa using g1
   have hj:is[p'.1]?=some j:=by
    have hlt:p'.1<is.length:=by rw[<-hlen];exact(List.getElem?_eq_some_iff.1 hf).1
    have:=hget p'.1 f is[p'.1] hf (List.getElem?_eq_getElem hlt)
    rw[g4]at this
    cases this
    exact List.getElem?_eq_getElem hlt
   simp[List.getElem?_zipWith,hf,hj,g2,g5])
 have hb:P.built t (parts.map fun (x:Nat×Operand)=>(x.1,ρ x.2)).toList=some cells:=by
  unfold Program.built
  rw[hi,hu]
  simp only[hiz,hm]
  exact e1
 refine⟨.agg cells,?_,.agg _ _ (by simpa using e2.1) fun i c v h1 h2=>e2.2 i c v h1 (by simpa using h2),fun b=>?_⟩
 ·simp only[execOp,ho,Sem.run_bind]
  have:=run_build w t (parts.map fun (x:Nat×Operand)=>(x.1,ρ x.2)) cells hb
  simp only[this,Result.andThen_ok,Sem.run_pure]
 ·have h1:=e3 b
  have h2:cntL b zero z.cells.toList=0:=cntL_noOwn b _ _ ((noOwnL_iff zero).2 fun c hc=>(hzn c hc).1)
  rw[hmap]at h1
  simp only[cnt]
  omega
end Ax
namespace Ax
open Go
variable {P:Program}{w:World}{G:Ghost}{β:List BxG}{ρ:Operand->Value}{o:Oper}
theorem addr_add(b off n:Nat):(⟨b,off,none⟩:Addr).add n=⟨b,off+n,none⟩:=by
 unfold Addr.add;split<;>simp_all
theorem run_fieldAt{t:TypeId}{f:Nat}{fs:Array Field}{fd:Field}{i:TypeInfo}(hu:P.underlying t=some (.struct fs))(hf:fs[f]?=some fd)(hi:P.info? fd.type=some i)(hs:i.size≠0)(a:Addr)(w:World) :
  (Instr.fieldAt t (.pointer (some a)) f).run P w=.ok (.pointer (some (a.add fd.offset))) w:=by
 have hc:P.cellsOf fd.type≠0:=by simp[Program.cellsOf,hi,hs]
 simp[Instr.fieldAt,run_underlying hu,hf,Instr.sureAddr,fieldPlace,run_sizeOf w hi,hc]
theorem q_fieldAddr{t:TypeId}{x:Operand}{f:Nat}(ho:o.op=.fieldAddr t x f){fs:Array Field}{fd:Field}{i:TypeInfo}(hu:P.underlying t=some (.struct fs))(hf:fs[f]?=some fd)(hi:P.info? fd.type=some i)(hs:i.size≠0)
  {a:Addr}(hx:ρ x=.pointer (some a)):(execOp ρ o).run P w=.ok (.value (.pointer (some (a.add fd.offset)))) w:=by
 simp only[execOp,ho,hx,Sem.run_bind,run_fieldAt hu hf hi hs,Result.andThen_ok,Sem.run_pure]
theorem rep_fieldAddr{p:AV}{v:Value}{off:Nat}{q:AV}(h:RepV w G p v)
  (hq:(∃id ver i k,p=.ptr id ver i k/\q=.ptr id ver i (k+off))\/(∃sz rows i k,p=.pel sz rows i k/\q=.pel sz rows i (k+off))) :
  ∃a,v=.pointer (some a)/\RepV w G q (.pointer (some (a.add off))):=by
 rcases hq with⟨id,ver,i,k,rfl,rfl⟩|⟨sz,rows,i,k,rfl,rfl⟩
 ·cases h with
  |ptr _ _ _ _ _ loc hp hl hv he=>
   obtain⟨a,rfl⟩:=hp
   refine⟨a,rfl,.ptr _ _ _ _ _ loc ⟨_,rfl⟩ hl hv fun e=>?_⟩
   obtain⟨a',h1,h2⟩:=he e
   cases h2
   exact⟨a',h1,by rw[addr_add];congr 3;omega⟩
 ·cases h with
  |pel _ _ _ _ a cap hs=>
   refine⟨_,rfl,?_⟩
   rw[addr_add]
   have:=RepV.pel (w:=w) (G:=G) sz rows i (k+off) a cap hs
   rw[show a.off+(i*sz+k)+off=a.off+(i*sz+(k+off)) by omega]
   exact this
theorem run_indexAt{t e:TypeId}{sz:Nat}(hu:P.underlying t=some (.slice e))(hsz:cellsIs P e sz=true){a:Addr}{len cap:Nat}{i:Int}(h0:0<=i)(h1:i<len)(w:World) :
  (Instr.indexAt t (.slice (some a) len cap) (.int .i64 i)).run P w=.ok (.pointer (some (a.add (i.toNat*sz)))) w:=by
 simp[Instr.indexAt,run_underlying hu,asIntOf,run_sizeOf_is hsz,h0,h1]
theorem q_indexAddr{t e:TypeId}{x y:Operand}{sz:Nat}(ho:o.op=.indexAddr t x y)(hu:P.underlying t=some (.slice e))(hsz:cellsIs P e sz=true){st:Store}(hI:Inv w G st){a:AV}{i:Int}{bx bx':Boxes}{st':Store}{r:Ent}
  (h:act0 0 0 (.indexAddr sz) [.val a,.val (.int .i64 i)] st bx=some (r,st',bx'))(ha:RepV w G a (ρ x))(hy:ρ y=.int .i64 i) :
  st'=st/\bx'=bx/\∃p u,r=.val p/\(execOp ρ o).run P w=.ok (.value u) w/\RepV w G p u/\p.noOwn=true:=by
 have pure:∀(s:Nat) (rows:List (List AV)) (v:Value),RepV w G (.lst s rows) v->ρ x=v->s=sz->0<=i->i<rows.length->
   ∃u,(execOp ρ o).run P w=.ok (.value u) w/\RepV w G (.pel sz rows i.toNat 0) u:=by
  intro s rows v hv hxv hs h0 h1
  subst hs
  have hv':=hv
  cases hv with
  |lst _ _ a cap hsp hcap=>
   refine⟨_,?_,.pel _ rows i.toNat 0 a cap hv'⟩
   simp only[execOp,ho,hxv,hy,Sem.run_bind,run_indexAt hu hsz h0 (by exact_mod_cast h1),Result.andThen_ok,Sem.run_pure]
   obtain⟨b,off,spot⟩:=a
   simp only at hsp
   subst hsp
   rw[addr_add]
   simp
 simp only[act0]at h
 split at h<;>try (cases h;done)
 ·rename_i s rows
  split at h
  ·rename_i hc
   cases h
   simp only[Bool.and_eq_true,decide_eq_true_eq]at hc
   obtain⟨u,h1,h2⟩:=pure s rows _ ha rfl hc.1.1 hc.1.2 hc.2
   exact⟨rfl,rfl,_,u,rfl,h1,h2,rfl⟩
  ·cases h
 ·rename_i s rows
  split at h
  ·rename_i hc
   cases h
   simp only[Bool.and_eq_true,decide_eq_true_eq]at hc
   obtain⟨u,h1,h2⟩:=pure s rows _ ha.view rfl hc.1.1 hc.1.2 hc.2
   exact⟨rfl,rfl,_,u,rfl,h1,h2,rfl⟩
  ·cases h
 ·rename_i id ver
  split at h
  ·rename_i v s rows hst
   split at h
   ·rename_i hc
    cases h
    simp only[Bool.and_eq_true,decide_eq_true_eq]at hc
    obtain⟨⟨⟨hver,hs⟩,h0⟩,h1⟩:=hc
    subst hver;subst hs
    obtain⟨loc,hl,ho'⟩:=hI.loc hst
    obtain⟨hmp,hlv,hra⟩:=ho'
    generalize hxv:ρ x=xv at ha
    cases ha with
    |mu _ _ _ loc' hp hl' hv he=>
     rw[hl]at hl';cases hl'
     have hx:=he hlv.symm
     rcases hra.lies with⟨_,hnil,_⟩|⟨b,off,c,e',hla,hcap,hheap,hle,hlen,htip,hcells⟩
     ·subst hnil;simp at h1;omega
     ·rw[hla,hra.len]at hx
      refine⟨rfl,rfl,_,_,rfl,?_,.ptr id v i.toNat 0 _ loc ⟨_,rfl⟩ hl (by omega) fun _=>⟨_,hla,rfl⟩,rfl⟩
      simp only[execOp,ho,hxv,hx,hy,Sem.run_bind,run_indexAt hu hsz h0 h1,Result.andThen_ok,Sem.run_pure]
      rw[addr_add,hra.size]
      simp
   ·cases h
  ·cases h
theorem q_index{t:TypeId}{x y:Operand}(ho:o.op=.index t x y)(hu:P.underlying t=some .string){s:List UInt8}{i:Int}{b:UInt8}(h0:0<=i)(hb:s[i.toNat]?=some b)(ha:RepV w G (.str s) (ρ x))(hy:ρ y=.int .i64 i) :
  (execOp ρ o).run P w=.ok (.value (.int .u8 b.toNat)) w:=by
 obtain⟨s',hx,rfl⟩:=ha.str_inv
 have hb':s'[i.toNat]?=some b:=by
  have hlt:i.toNat<s'.size:=by have:=(List.getElem?_eq_some_iff.1 hb).1;simpa using this
  have hd:s'.data[i.toNat]?=some b:=by simpa using hb
  have e:s'[i.toNat]?=s'.data[i.toNat]?:=rfl
  rw[e];exact hd
 simp only[execOp,ho,hx,hy,Sem.run_bind]
 simp[Instr.index,run_underlying hu,asIntOf,h0,hb']
theorem readP_ok{st:Store}(hI:Inv w G st){p:AV}{v:Value}{n:Nat}{cs:List AV}(hr:readP st p n=some cs)(hp:RepV w G p v) :
  ∃b off xs,v=.pointer (some ⟨b,off,none⟩)/\xs.length=n/\RepC w G cs xs/\∀(j:Nat) x,xs[j]?=some x->w.cell? ⟨b,off+j,none⟩=some x:=by
 have build:∀(r:List AV) (k b off:Nat),cut r k n=some cs->(∀(j:Nat) c,r[j]?=some c->∃x,w.cell? ⟨b,off+j,none⟩=some x/\RepV w G c x)->
   ∃xs:List Value,xs.length=n/\RepC w G cs xs/\∀(j:Nat) x,xs[j]?=some x->w.cell? ⟨b,off+k+j,none⟩=some x:=by
  intro r k b off hc hcell
  obtain⟨rfl,hle,hlen⟩:=cut_some hc
  refine⟨(List.range n).map fun j=>(w.cell? ⟨b,off+k+j,none⟩).getD undef,by simp,⟨by simp;omega,fun j c x h1 h2=>?_⟩,fun j x h=>?_⟩
  ·rw[List.getElem?_take]at h1
   split at h1
   ·rw[List.getElem?_drop]at h1
    obtain⟨y,e1,e2⟩:=hcell _ c h1
    simp only[List.getElem?_map,Option.map_eq_some_iff]at h2
    obtain⟨j',h3,rfl⟩:=h2
    have:j'=j:=by
     rw[List.getElem?_range (by assumption)]at h3;simpa using h3.symm
    subst this
    rw[show off+k+j'=off+(k+j') by omega,e1]
    exact e2
   ·cases h1
  ·simp only[List.getElem?_map,Option.map_eq_some_iff]at h
   obtain⟨j',h3,rfl⟩:=h
   have hj:j<n:=by
    have:=(List.getElem?_eq_some_iff.1 h3).1;simpa using this
   have:j'=j:=by
    rw[List.getElem?_range hj]at h3;simpa using h3.symm
   subst this
   have hlt:k+j'<r.length:=by omega
   obtain⟨y,e1,e2⟩:=hcell (k+j') r[k+j'] (List.getElem?_eq_getElem hlt)
   rw[show off+k+j'=off+(k+j') by omega,e1]
   rfl
 unfold readP at hr
 split at hr
 ·rename_i id ver i k
  split at hr
  ·rename_i ve sz rows hst
   split at hr
   ·rename_i hver
    subst hver
    split at hr
    ·rename_i r hrow
     obtain⟨loc,hl,hmp,hlv,hra⟩:=hI.loc hst
     cases hp with
     |ptr _ _ _ _ _ loc' hpp hl' hv he=>
      rw[hl]at hl';cases hl'
      obtain⟨a,hla,rfl⟩:=he hlv.symm
      rcases hra.lies with⟨_,hnil,_⟩|⟨b,off,c,e',hla',hcap,hheap,hle,hlen,htip,hcells⟩
      ·subst hnil;simp at hrow
      ·rw[hla']at hla;cases hla
       obtain⟨xs,h1,h2,h3⟩:=build r k b (off+i*sz) hr (fun j c hc=>by
        obtain⟨x,e1,e2⟩:=hra.cell hcells i r j c hrow hc
        exact⟨x,by rw[show off+i*sz+j=off+(i*sz+j) by omega];exact e1,e2⟩)
       refine⟨b,off+(i*sz+k),xs,by rw[hra.size],h1,h2,fun j x hx=>?_⟩
       rw[show off+(i*sz+k)+j=off+i*sz+k+j by omega]
       exact h3 j x hx
    ·cases hr
   ·cases hr
  ·cases hr
 ·rename_i sz rows i k
  split at hr
  ·rename_i r hrow
   cases hp with
   |pel _ _ _ _ a cap hs=>
    cases hs with
    |lst _ _ _ _ hsp hcap hfit hno hpu hce hc hrr=>
     obtain⟨xs,h1,h2,h3⟩:=build r k a.block (a.off+i*sz) hr (fun j c hc'=>by
      obtain⟨_,x,e1⟩:=hc i r j c hrow hc'
      exact⟨x,by rw[show a.off+i*sz+j=a.off+(i*sz+j) by omega];exact e1,hrr i r j c x hrow hc' e1⟩)
     refine⟨a.block,a.off+(i*sz+k),xs,rfl,h1,h2,fun j x hx=>?_⟩
     rw[show a.off+(i*sz+k)+j=a.off+i*sz+k+j by omega]
     exact h3 j x hx
  ·cases hr
 ·cases hr
theorem run_loadAt{t:TypeId}{n:Nat}{agg:Bool}(hn:cellsIs P t n=true)(hagg:isAggT P t=some agg){b off:Nat}{xs:List Value}(hlen:xs.length=n)(hone:agg=false->n=1)
  (hc:∀(j:Nat) x,xs[j]?=some x->w.cell? ⟨b,off+j,none⟩=some x) :
  (Instr.loadAt t (.pointer (some ⟨b,off,none⟩))).run P w=.ok (if agg then .agg xs.toArray else xs.headD undef) w:=by
 cases agg with
 |true=>
  have:=run_loadCells_list (P:=P) w ⟨b,off,none⟩ xs (fun j v h=>by rw[addr_add];exact hc j v h)
  rw[hlen]at this
  simp[Instr.loadAt,Instr.sureAddr,loadVar,isAggT_run hagg,run_sizeOf_is hn,this]
 |false=>
  match xs,hlen,hone rfl with
  |[x],_,_=>
   have:=hc 0 x rfl
   simp only[Nat.add_zero]at this
   simp[Instr.loadAt,Instr.sureAddr,loadVar,isAggT_run hagg,this]
  |[],h,h1=>simp at h;omega
  |_::_::_,h,h1=>simp at h;omega
theorem RepC.view{as:List AV}{xs:List Value}(h:RepC w G as xs):RepC w G (AV.viewL as) xs:=by
 refine⟨by rw[viewL_length];exact h.1,fun i c v hc hv=>?_⟩
 rw[viewL_get]at hc
 simp only[Option.map_eq_some_iff]at hc
 obtain⟨c',h1,rfl⟩:=hc
 exact(h.2 i c' v h1 hv).view
theorem q_load{t:TypeId}{x:Operand}{n:Nat}{agg:Bool}(ho:o.op=.load t x)(hn:cellsIs P t n=true)(hagg:isAggT P t=some agg)(hone:agg=false->n=1){b off:Nat}{xs:List Value}{cs:List AV}{v:AV}
  (hx:ρ x=.pointer (some ⟨b,off,none⟩))(hlen:xs.length=n)(hC:RepC w G cs xs)(hc:∀(j:Nat) y,xs[j]?=some y->w.cell? ⟨b,off+j,none⟩=some y)(hv:oneOrAgg agg cs=some v) :
  ∃u,(execOp ρ o).run P w=.ok (.value u) w/\RepV w G v u/\∀d,cnt d v u=cntL d cs xs:=by
 obtain⟨u,hu,h1,h2,_⟩:=one_agg hv hC
 refine⟨u,?_,h1,h2⟩
 simp only[execOp,ho,hx,Sem.run_bind,run_loadAt hn hagg hlen hone hc,Result.andThen_ok,Sem.run_pure,hu]
theorem q_makeFunc{f:FuncId}{first caps:Array Operand}(hf:f<100000)(ho:o.op=.makeFunc (.func f) first caps){vs:List AV}(hv:RepC w G vs ((first.toList++caps.toList).map ρ)) :
  (execOp ρ o).run P w=.ok (.value (.func (.func f) (first.map ρ) (caps.map ρ))) w/\
   RepV w G (.fn f (AV.viewL (vs.take first.size)) (AV.viewL (vs.drop first.size))) (.func (.func f) (first.map ρ) (caps.map ρ)):=by
 refine⟨by simp only[execOp,ho,Sem.run_bind];rfl,?_⟩
 have h1:=(hv.take first.size).view
 have h2:=(hv.drop first.size).view
 rw[List.map_append]at h1 h2
 rw[List.take_left' (by simp)]at h1
 rw[List.drop_left' (by simp)]at h2
 refine .fn f _ _ _ _ (by simpa using h1.1) (by simpa using h2.1) ⟨noOwn_viewL _,noOwn_viewL _,hf⟩ (fun i c v e1 e2=>h1.2 i c v e1 ?_) (fun i c v e1 e2=>h2.2 i c v e1 ?_)
 ·simpa using e2
 ·simpa using e2
end Ax
namespace Ax
open Go
variable {P:Program}{w:World}{G:Ghost}{β:List BxG}{ρ:Operand->Value}{o:Oper}
def OptB(ρ:Operand->Value)(x:Option Operand)(dflt a:Int):Prop:=(x=none/\a=dflt)\/∃y,x=some y/\ρ y=.int .i64 a
theorem run_sliceBound{i:Int}{y:Nat}{c:BoundsCode}(h0:0<=i)(h1:i<=y)(w:World):(Instr.sliceBound (.int .i64 i) y c).run P w=.ok i.toNat w:=by
 simp[Instr.sliceBound,asIntOf,h0,h1]
theorem run_sliceBounds{isS:Bool}{len cap:Nat}{lo hi:Option Operand}{a b:Int}(ha:OptB ρ lo 0 a)(hb:OptB ρ hi len b)(h0:0<=a)(h1:a<=b)(h2:b<=cap)(w:World) :
  (Instr.sliceBounds isS len cap (lo.map ρ) (hi.map ρ) none).run P w=.ok (a.toNat,b.toNat,cap) w:=by
 rcases ha with⟨rfl,rfl⟩|⟨y,rfl,hy⟩<;>rcases hb with⟨rfl,rfl⟩|⟨z,rfl,hz⟩
 ·simp[Instr.sliceBounds]
 ·simp[Instr.sliceBounds,hz,run_sliceBound (by omega:(0:Int)<=b) h2]
 ·simp[Instr.sliceBounds,hy,run_sliceBound h0 h1]
 ·have hbn:((b.toNat:Nat):Int)=b:=by omega
  simp[Instr.sliceBounds,hy,hz,run_sliceBound (by omega:(0:Int)<=b) h2,run_sliceBound h0 (by rw[hbn];exact h1)]
theorem q_sliceStr{t:TypeId}{x:Operand}{lo hi:Option Operand}(ho:o.op=.slice t x lo hi none)(hu:P.underlying t=some .string){s:List UInt8}{a b:Int}(hx:RepV w G (.str s) (ρ x))
  (ha:OptB ρ lo 0 a)(hb:OptB ρ hi s.length b)(h0:0<=a)(h1:a<=b)(h2:b<=s.length) :
  ∃u,(execOp ρ o).run P w=.ok (.value u) w/\RepV w G (.str ((s.take b.toNat).drop a.toNat)) u:=by
 obtain⟨s',hx',rfl⟩:=hx.str_inv
 have hl:s'.data.toList.length=s'.size:=by simp
 rw[hl]at hb h2
 refine⟨.string (s'.extract a.toNat b.toNat),?_,.str _ _ ?_⟩
 ·simp only[execOp,ho,hx',Sem.run_bind]
  simp[Instr.sliceAt,Instr.slice,run_underlying hu,run_sliceBounds ha hb h0 h1 h2]
 ·rw[ByteArray.data_extract,Array.toList_extract]
  simp only[List.extract]
  rw[List.drop_take]
theorem fits_take{sz:Nat}{rows:List (List AV)}(h:fits sz rows=true)(n m:Nat):fits sz ((rows.take n).drop m)=true:=by
 simp only[fits,List.all_eq_true]at h ⊢
 exact fun r hr=>h r (List.mem_of_mem_take (List.mem_of_mem_drop hr))
theorem sub_get{rows:List (List AV)}{n m i:Nat}{r:List AV}(h:((rows.take n).drop m)[i]?=some r):rows[m+i]?=some r:=by
 rw[List.getElem?_drop,List.getElem?_take]at h
 split at h
 ·exact h
 ·cases h
theorem rep_sub{sz:Nat}{rows:List (List AV)}{a:Addr}{len cap:Nat}(h:RepV w G (.lst sz rows) (.slice (some a) len cap)){lo hi:Nat}(h1:lo<=hi)(h2:hi<=rows.length) :
  len=rows.length/\rows.length<=cap/\RepV w G (.lst sz ((rows.take hi).drop lo)) (.slice (if cap=lo then some a else some (a.add (lo*sz))) (hi-lo) (cap-lo)):=by
 cases h with
 |lst _ _ _ _ hsp hcap hfit hno hpu hce hc hr=>
  refine⟨rfl,hcap,?_⟩
  have hlen:((rows.take hi).drop lo).length=hi-lo:=by simp;omega
  have hmem:∀r∈(rows.take hi).drop lo,r∈rows:=fun r hr=>List.mem_of_mem_take (List.mem_of_mem_drop hr)
  have hadd:a.add (lo*sz)=⟨a.block,a.off+lo*sz,none⟩:=by
   obtain⟨b,off,spot⟩:=a
   simp only at hsp;subst hsp
   exact addr_add _ _ _
  split
  ·rename_i hcl
   have:(rows.take hi).drop lo=[]:=by apply List.eq_nil_of_length_eq_zero;omega
   rw[this]
   have h0:hi-lo=([]:List (List AV)).length:=by simp;omega
   rw[h0]
   exact .lst _ _ a _ hsp (by simp) (by simp[fits]) (by simp) (by simp) (by simp) (fun i r j c h _=>by simp at h) (fun i r j c v h _=>by simp at h)
  ·rw[<-hlen]
   refine .lst _ _ _ _ (by rw[hadd]) (by omega) (fits_take hfit _ _) (fun r h=>hno r (hmem r h)) (fun r h=>hpu r (hmem r h)) (fun r h=>hce r (hmem r h)) (fun i r j c e1 e2=>?_) (fun i r j c v e1 e2 e3=>?_)
   ·have:=hc _ r j c (sub_get e1) e2
    rw[hadd]
    simp only
    rw[show a.off+lo*sz+(i*sz+j)=a.off+((lo+i)*sz+j) by rw[Nat.add_mul];omega]
    exact this
   ·rw[hadd]at e3
    simp only at e3
    rw[show a.off+lo*sz+(i*sz+j)=a.off+((lo+i)*sz+j) by rw[Nat.add_mul];omega]at e3
    exact hr _ r j c v (sub_get e1) e2 e3
theorem q_sliceLst{t e:TypeId}{x:Operand}{lo hi:Option Operand}(ho:o.op=.slice t x lo hi none)(hu:P.underlying t=some (.slice e)){sz:Nat}(hsz:cellsIs P e sz=true){rows:List (List AV)}{a b:Int}(hx:RepV w G (.lst sz rows) (ρ x))
  (ha:OptB ρ lo 0 a)(hb:OptB ρ hi rows.length b)(h0:0<=a)(h1:a<=b)(h2:b<=rows.length) :
  ∃u,(execOp ρ o).run P w=.ok (.value u) w/\RepV w G (.lst sz ((rows.take b.toNat).drop a.toNat)) u:=by
 have hx0:=hx
 generalize hxv:ρ x=xv at hx
 have hs:∃ad len cap,xv=.slice (some ad) len cap:=by cases hx;exact⟨_,_,_,rfl⟩
 obtain⟨ad,len,cap,rfl⟩:=hs
 obtain⟨e1,e2,e3⟩:=rep_sub hx (lo:=a.toNat) (hi:=b.toNat) (by omega) (by omega)
 subst e1
 refine⟨_,?_,e3⟩
 simp only[execOp,ho,hxv,Sem.run_bind]
 simp only[Instr.sliceAt,Sem.run_bind,run_underlying hu,Result.andThen_ok,Instr.slice,Option.map_none,run_sliceBounds ha hb h0 h1 (by omega:b<=(cap:Int)),run_sizeOf_is hsz,Sem.run_pure]
 by_cases hc:cap=a.toNat<;>simp[hc]
theorem q_sliceNil{t e:TypeId}{x:Operand}{lo hi mx:Option Operand}(ho:o.op=.slice t x lo hi mx)(hu:P.underlying t=some (.slice e)){sz:Nat}(hsz:cellsIs P e sz=true)(hx:RepV w G .nilSl (ρ x))
  (ha:OptB ρ lo 0 0)(hb:OptB ρ hi 0 0)(hm:mx=none\/∃z,mx=some z/\hi.isSome=true/\ρ z=.int .i64 0) :
  (execOp ρ o).run P w=.ok (.value (.slice none 0 0)) w:=by
 generalize hxv:ρ x=xv at hx
 cases hx
 simp only[execOp,ho,hxv,Sem.run_bind]
 rcases hm with rfl|⟨z,rfl,hh,hz⟩
 ·have hb':OptB ρ hi ((0:Nat):Int) 0:=hb
  simp only[Instr.sliceAt,Sem.run_bind,run_underlying hu,Result.andThen_ok,Instr.slice,Option.map_none,run_sliceBounds (len:=0) (cap:=0) ha hb' (by omega) (by omega) (by simp),run_sizeOf_is hsz,Sem.run_pure]
  simp
 ·have key:(Instr.sliceBounds true 0 0 (lo.map ρ) (hi.map ρ) (some (ρ z))).run P w=.ok (0,0,0) w:=by
   rcases ha with⟨rfl,_⟩|⟨y,rfl,hy⟩<;>rcases hb with⟨rfl,_⟩|⟨y',rfl,hy'⟩
   ·simp at hh
   ·simp[Instr.sliceBounds,hz,hy',Instr.sliceBound,asIntOf]
   ·simp at hh
   ·simp[Instr.sliceBounds,hz,hy,hy',Instr.sliceBound,asIntOf]
  simp only[Instr.sliceAt,Sem.run_bind,run_underlying hu,Result.andThen_ok,Instr.slice,Option.map_some,key,run_sizeOf_is hsz,Sem.run_pure]
  simp
theorem q_sliceEmp0{t e:TypeId}{x:Operand}{lo hi mx:Option Operand}(ho:o.op=.slice t x lo hi mx)(hu:P.underlying t=some (.slice e)){sz:Nat}(hsz:cellsIs P e sz=true)(hx:RepV w G .emp (ρ x))
  (ha:OptB ρ lo 0 0)(hb:OptB ρ hi 0 0)(hm:mx=none\/∃z,mx=some z/\hi.isSome=true/\ρ z=.int .i64 0) :
  ∃u,(execOp ρ o).run P w=.ok (.value u) w/\RepV w G .emp u:=by
 generalize hxv:ρ x=xv at hx
 obtain⟨ad,rfl⟩:∃ad,xv=.slice (some ad) 0 0:=by cases hx;exact⟨_,rfl⟩
 refine⟨_,?_,.emp ad⟩
 simp only[execOp,ho,hxv,Sem.run_bind]
 rcases hm with rfl|⟨z,rfl,hh,hz⟩
 ·have hb':OptB ρ hi ((0:Nat):Int) 0:=hb
  simp only[Instr.sliceAt,Sem.run_bind,run_underlying hu,Result.andThen_ok,Instr.slice,Option.map_none,run_sliceBounds (len:=0) (cap:=0) ha hb' (by omega) (by omega) (by simp),run_sizeOf_is hsz,Sem.run_pure]
  simp
 ·have key:(Instr.sliceBounds true 0 0 (lo.map ρ) (hi.map ρ) (some (ρ z))).run P w=.ok (0,0,0) w:=by
   rcases ha with⟨rfl,_⟩|⟨y,rfl,hy⟩<;>rcases hb with⟨rfl,_⟩|⟨y',rfl,hy'⟩
   ·simp at hh
   ·simp[Instr.sliceBounds,hz,hy',Instr.sliceBound,asIntOf]
   ·simp at hh
   ·simp[Instr.sliceBounds,hz,hy,hy',Instr.sliceBound,asIntOf]
  simp only[Instr.sliceAt,Sem.run_bind,run_underlying hu,Result.andThen_ok,Instr.slice,Option.map_some,key,run_sizeOf_is hsz,Sem.run_pure]
  simp
theorem q_sliceEmp{t e:TypeId}{x z:Operand}{lo hi:Option Operand}(ho:o.op=.slice t x lo hi (some z))(hu:P.underlying t=some (.slice e)){sz s:Nat}(hsz:cellsIs P e sz=true){rows:List (List AV)}(hx:RepV w G (.lst s rows) (ρ x))
  (ha:OptB ρ lo 0 0)(hb:OptB ρ hi rows.length 0)(hh:hi.isSome=true)(hz:ρ z=.int .i64 0) :
  ∃u,(execOp ρ o).run P w=.ok (.value u) w/\RepV w G .emp u:=by
 generalize hxv:ρ x=xv at hx
 have hs:∃ad len cap,xv=.slice (some ad) len cap:=by cases hx;exact⟨_,_,_,rfl⟩
 obtain⟨ad,len,cap,rfl⟩:=hs
 refine⟨_,?_,.emp ad⟩
 have key:(Instr.sliceBounds true len cap (lo.map ρ) (hi.map ρ) (some (ρ z))).run P w=.ok (0,0,0) w:=by
  rcases ha with⟨rfl,_⟩|⟨y,rfl,hy⟩<;>rcases hb with⟨rfl,_⟩|⟨y',rfl,hy'⟩
  ·simp at hh
  ·simp[Instr.sliceBounds,hz,hy',Instr.sliceBound,asIntOf]
  ·simp at hh
  ·simp[Instr.sliceBounds,hz,hy,hy',Instr.sliceBound,asIntOf]
 simp only[execOp,ho,hxv,Sem.run_bind]
 simp only[Instr.sliceAt,Sem.run_bind,run_underlying hu,Result.andThen_ok,Instr.slice,Option.map_some,key,run_sizeOf_is hsz,Sem.run_pure]
 simp
theorem run_checkKey{t:TypeId}{kk:SK}(ht:keyT P t kk=true)(b:Bool)(n:Nat)(v:Value)(w:World):(Instr.checkKey b (n+1) t v).run P w=.ok () w:=by
 unfold keyT at ht
 cases kk<;>simp only at ht<;>split at ht<;>(try cases ht)
 all_goals (rename_i hu;simp[Instr.checkKey,run_underlying hu])
def RepM(w:World)(G:Ghost)(es:List (AV×AV))(fs:List MapEntry):Prop:=
 fs.length=es.length/\∀(i:Nat) k v e,es[i]?=some (k,v)->fs[i]?=some e->RepV w G k e.key/\RepV w G v e.val/\v.noOwn=true/\k.noOwn=true
theorem RepM.tail{x:AV×AV}{es:List (AV×AV)}{f:MapEntry}{fs:List MapEntry}(h:RepM w G (x::es) (f::fs)):RepM w G es fs:=
 ⟨by have:=h.1;simpa using this,fun i k v e h1 h2=>h.2 (i+1) k v e (by simpa using h1) (by simpa using h2)⟩
theorem sameNow_ok{t:TypeId}{d:TypeDesc}{kk:SK}(ht:keyT P t kk=true)(hu:P.underlying t=some d){a b:AV}{x y:Value}{r:Bool}(h:eqS kk a b=some r)(ha:RepV w G a x)(hb:RepV w G b y):Instr.sameNow d x y=some r:=by
 unfold eqS at h
 split at h
 ·cases h
  rw[ha.bool_inv,hb.bool_inv]
  simp only[keyT,hu]at ht
  split at ht
  ·rename_i hd;cases hd;rfl
  ·cases ht
 ·split at h
  ·rename_i k p l q hk
   cases h
   subst hk
   rw[ha.int_inv,hb.int_inv]
   simp only[keyT,hu]at ht
   split at ht
   ·rename_i hd;cases hd;simp[Instr.sameNow]
   ·cases ht
  ·cases h
 ·cases h
  obtain⟨s,rfl,rfl⟩:=ha.str_inv
  obtain⟨s',rfl,rfl⟩:=hb.str_inv
  simp only[keyT,hu]at ht
  split at ht
  ·rename_i hd;cases hd
   simp only[Instr.sameNow,Option.some.injEq]
   rw[beq_toListBytes,ByteArray.toList_eq,ByteArray.toList_eq]
  ·cases ht
 ·cases h
theorem findNow_ok{t:TypeId}{d:TypeDesc}{kk:SK}(ht:keyT P t kk=true)(hu:P.underlying t=some d){k:AV}{x:Value}(hk:RepV w G k x):∀(es:List (AV×AV))(fs:List MapEntry)(i:Nat)(r:Option AV),
  RepM w G es fs->findV kk k es=some r->∃q,Instr.findNow d x fs i=some q/\
   (match r with
    |none=>q=none
    |some v=>∃j e,q=some (i+j,e.val)/\fs[j]?=some e/\RepV w G v e.val/\v.noOwn=true)
 |[],[],i,r,_,h=>by simp[findV]at h;subst h;exact⟨none,rfl,rfl⟩
 |[],_::_,_,_,h,_=>by simp[RepM]at h
 |_::_,[],_,_,h,_=>by simp[RepM]at h
 |(a,v)::es,f::fs,i,r,hM,h=>by
  obtain⟨h1,h2,h3,_⟩:=hM.2 0 a v f rfl rfl
  simp only[findV]at h
  split at h
  ·rename_i he
   cases h
   exact⟨some (i,f.val),by simp[Instr.findNow,sameNow_ok ht hu he hk h1],0,f,rfl,rfl,h2,h3⟩
  ·rename_i he
   obtain⟨q,e1,e2⟩:=findNow_ok ht hu hk es fs (i+1) r hM.tail h
   refine⟨q,by simp[Instr.findNow,sameNow_ok ht hu he hk h1,e1],?_⟩
   cases r with
   |none=>exact e2
   |some v'=>
    obtain⟨j,e,g1,g2,g3⟩:=e2
    exact⟨j+1,e,by rw[g1,show i+1+j=i+(j+1) by omega],by simpa using g2,g3⟩
  ·cases h
theorem run_findKey{t:TypeId}{kk:SK}(ht:keyT P t kk=true){k:AV}{x:Value}(hk:RepV w G k x){es:List (AV×AV)}{fs:List MapEntry}{r:Option AV}(hM:RepM w G es fs)(hf:findV kk k es=some r)(w':World) :
  ∃q,(Instr.findKey t x fs).run P w'=.ok q w'/\
   (match r with
    |none=>q=none
    |some v=>∃j e,q=some (j,e.val)/\fs[j]?=some e/\RepV w G v e.val/\v.noOwn=true):=by
 have hu:∃d,P.underlying t=some d:=by
  unfold keyT at ht
  cases kk<;>simp only at ht<;>split at ht<;>(try cases ht)<;>exact⟨_,by assumption⟩
 obtain⟨d,hu⟩:=hu
 obtain⟨q,e1,e2⟩:=findNow_ok ht hu hk es fs 0 r hM hf
 refine⟨q,by simp[Instr.findKey,run_underlying hu,e1],?_⟩
 cases r with
 |none=>exact e2
 |some v=>obtain⟨j,e,g1,g2⟩:=e2;exact⟨j,e,by simpa using g1,g2⟩
theorem q_lookup{t kt et:TypeId}{m k:Operand}{ok:Bool}(ho:o.op=.lookup t m k ok)(hu:P.underlying t=some (.map kt et)){kk:SK}(ht:keyT P kt kk=true){ie:TypeInfo}{z:Value}(hie:P.info? et=some ie)(hz:ie.zero=some z){zero:AV}(hzc:constIs z zero=true)
  {st:Store}(hI:Inv w G st){am ak:AV}{es:List (AV×AV)}(hes:(am=.nilMap/\es=[])\/∃id,am=.map id/\st[id]?=some (.map es)){r:Option AV}(hf:findV kk ak es=some r)(hm:RepV w G am (ρ m))(hk:RepV w G ak (ρ k)) :
  ∃u,(execOp ρ o).run P w=.ok (.value u) w/\RepV w G (if ok then .tup [r.getD zero,.bool r.isSome] else r.getD zero) u/\(r.getD zero).noOwn=true:=by
 obtain⟨hz1,hz2,_⟩:=constIs_ok hzc w G
 have hzv:(zeroValue et).run P w=.ok z w:=by simp[zeroValue,typeInfo,hie,hz]
 have two:∀(v:AV) (x:Value) (b:Bool),RepV w G v x->RepV w G (if ok then .tup [v,.bool b] else v) (if ok=true then Value.tuple #[x,.bool b] else x):=by
  intro v x b hv
  cases ok
  ·exact hv
  ·refine .tup _ _ rfl fun i c y h1 h2=>?_
   match i with
   |0=>simp at h1 h2;subst h1;subst h2;exact hv
   |1=>simp at h1 h2;subst h1;subst h2;exact .bool _
   |i+2=>simp at h1
 have fin:∀(fs:Array MapEntry),RepM w G es fs.toList->∃x b,RepV w G (r.getD zero) x/\b=r.isSome/\(r.getD zero).noOwn=true/\∃q,(Instr.findKey kt (ρ k) fs.toList).run P w=.ok q w/\((∃j,q=some (j,x)/\b=true)\/(q=none/\x=z/\b=false)):=by
  intro fs hM
  obtain⟨q,e1,e2⟩:=run_findKey ht hk hM hf w
  cases r with
  |none=>exact⟨z,false,hz1,rfl,hz2,q,e1,.inr ⟨e2,rfl,rfl⟩⟩
  |some v=>
   obtain⟨j,e,g1,g2,g3,g4⟩:=e2
   exact⟨e.val,true,g3,rfl,g4,q,e1,.inl ⟨j,g1,rfl⟩⟩
 rcases hes with⟨rfl,rfl⟩|⟨id,rfl,hst⟩
 ·generalize hmv:ρ m=mv at hm
  cases hm
  obtain⟨x,b,h1,rfl,h3,q,h4,h5⟩:=fin #[] ⟨rfl,fun i k v e h _=>by simp at h⟩
  refine⟨_,?_,two _ _ _ h1,h3⟩
  have hck:=run_checkKey (w:=w) ht (#[]:Array MapEntry).isEmpty 9999 (ρ k)
  simp only[execOp,ho,hmv,Sem.run_bind]
  simp only[Instr.lookup,Sem.run_bind,run_underlying hu,Result.andThen_ok,Sem.run_pure,hck,h4]
  rcases h5 with⟨j,rfl,hb⟩|⟨rfl,rfl,hb⟩
  ·simp[hb]
  ·simp[hb,hzv]
 ·generalize hmv:ρ m=mv at hm
  obtain⟨loc,hl,ho'⟩:=hI.loc hst
  cases hm with
  |map _ loc' bk hl' hmp hb'=>
   rw[hl]at hl';cases hl'
   obtain⟨g1,g2,b0,es',clock,g3,g4,g5,g6,g7⟩:=ho'
   rw[hb']at g3;cases g3
   obtain⟨x,b,h1,rfl,h3,q,h4,h5⟩:=fin es' ⟨by simpa using g6,fun i k v e e1 e2=>g7 i k v e e1 (by simpa using e2)⟩
   refine⟨_,?_,two _ _ _ h1,h3⟩
   have hck:=run_checkKey (w:=w) ht es'.isEmpty 9999 (ρ k)
   have hgo:(getObj bk).run P w=.ok (.map es' clock) w:=by simp[getObj,Sem.run,g4]
   simp only[execOp,ho,hmv,Sem.run_bind]
   simp only[Instr.lookup,Sem.run_bind,run_underlying hu,Result.andThen_ok,Sem.run_pure,hgo,hck,h4]
   rcases h5 with⟨j,rfl,hb⟩|⟨rfl,rfl,hb⟩
   ·simp[hb]
   ·simp[hb,hzv]
end Ax
namespace Ax
open Go
variable {P:Program}{w w':World}{G G':Ghost}{β:List BxG}
def Loc.blk(l:Loc):Option Nat:=if l.cap=0 then none else l.a.map (·.block)
def cntLL(b:Nat):List (List AV)->List (List Value)->Nat
 |r::rs,x::xs=>cntL b r x+cntLL b rs xs
 |_,_=>0
def cntO(b:Nat)(loc:Loc):AObj->Nat
 |.rows _ _ rows=>(if loc.blk=some b then 1 else 0)+cntLL b rows loc.vals
 |.map _=>if loc.blk=some b then 1 else 0
def cntS(b:Nat):List Loc->List AObj->Nat
 |l::ls,o::st=>cntO b l o+cntS b ls st
 |_,_=>0
def cntB(b:Nat):List BxG->List (List AV)->Nat
 |g::β,r::bx=>(if g.blk=some b then 1 else 0)+cntL b r g.vals+cntB b β bx
 |_,_=>0
theorem cntLL_get(b:Nat):∀(rs:List (List AV))(xs:List (List Value))(i:Nat) r x,rs[i]?=some r->xs[i]?=some x->cntL b r x<=cntLL b rs xs
 |[],_,_,_,_,h,_=>by simp at h
 |_::_,[],_,_,_,_,h=>by simp at h
 |r::rs,x::xs,0,r',x',h,k=>by simp at h k;subst h;subst k;simp only[cntLL];omega
 |r::rs,x::xs,i+1,r',x',h,k=>by
  have:=cntLL_get b rs xs i r' x' (by simpa using h) (by simpa using k)
  simp only[cntLL];omega
theorem cntLL_set(b:Nat):∀(rs:List (List AV))(xs:List (List Value))(i:Nat) r x r' x',rs[i]?=some r->xs[i]?=some x->
  cntLL b (rs.set i r') (xs.set i x')+cntL b r x=cntLL b rs xs+cntL b r' x'
 |[],_,_,_,_,_,_,h,_=>by simp at h
 |_::_,[],_,_,_,_,_,_,h=>by simp at h
 |r::rs,x::xs,0,r1,x1,r',x',h,k=>by simp at h k;subst h;subst k;simp only[List.set_cons_zero,cntLL];omega
 |r::rs,x::xs,i+1,r1,x1,r',x',h,k=>by
  have:=cntLL_set b rs xs i r1 x1 r' x' (by simpa using h) (by simpa using k)
  simp only[List.set_cons_succ,cntLL];omega
theorem cntLL_noOwn(b:Nat):∀(rs:List (List AV))(xs:List (List Value)),(∀r∈rs,AV.noOwnL r=true)->cntLL b rs xs=0
 |[],_,_=>by simp[cntLL]
 |_::_,[],_=>by simp[cntLL]
 |r::rs,x::xs,h=>by
  simp only[cntLL,cntL_noOwn b r x (h r (by simp)),cntLL_noOwn b rs xs fun r' hr=>h r' (by simp[hr])]
theorem cntS_get(b:Nat):∀(ls:List Loc)(st:List AObj)(i:Nat) l o,ls[i]?=some l->st[i]?=some o->cntO b l o<=cntS b ls st
 |[],_,_,_,_,h,_=>by simp at h
 |_::_,[],_,_,_,_,h=>by simp at h
 |l::ls,o::st,0,l',o',h,k=>by simp at h k;subst h;subst k;simp only[cntS];omega
 |l::ls,o::st,i+1,l',o',h,k=>by
  have:=cntS_get b ls st i l' o' (by simpa using h) (by simpa using k)
  simp only[cntS];omega
theorem cntS_two(b:Nat):∀(ls:List Loc)(st:List AObj)(i j:Nat) l o l' o',i≠j->ls[i]?=some l->st[i]?=some o->ls[j]?=some l'->st[j]?=some o'->cntO b l o+cntO b l' o'<=cntS b ls st
 |[],_,_,_,_,_,_,_,_,h,_,_,_=>by simp at h
 |_::_,[],_,_,_,_,_,_,_,_,h,_,_=>by simp at h
 |l::ls,o::st,0,0,_,_,_,_,h,_,_,_,_=>absurd rfl h
 |l::ls,o::st,0,j+1,l1,o1,l2,o2,_,h1,h2,h3,h4=>by
  simp at h1 h2;subst h1;subst h2
  have:=cntS_get b ls st j l2 o2 (by simpa using h3) (by simpa using h4)
  simp only[cntS];omega
 |l::ls,o::st,i+1,0,l1,o1,l2,o2,_,h1,h2,h3,h4=>by
  simp at h3 h4;subst h3;subst h4
  have:=cntS_get b ls st i l1 o1 (by simpa using h1) (by simpa using h2)
  simp only[cntS];omega
 |l::ls,o::st,i+1,j+1,l1,o1,l2,o2,h,h1,h2,h3,h4=>by
  have:=cntS_two b ls st i j l1 o1 l2 o2 (by omega) (by simpa using h1) (by simpa using h2) (by simpa using h3) (by simpa using h4)
  simp only[cntS];omega
theorem cntS_set(b:Nat):∀(ls:List Loc)(st:List AObj)(i:Nat) l o l' o',ls[i]?=some l->st[i]?=some o->
  cntS b (ls.set i l') (st.set i o')+cntO b l o=cntS b ls st+cntO b l' o'
 |[],_,_,_,_,_,_,h,_=>by simp at h
 |_::_,[],_,_,_,_,_,_,h=>by simp at h
 |l::ls,o::st,0,l1,o1,l2,o2,h,k=>by simp at h k;subst h;subst k;simp only[List.set_cons_zero,cntS];omega
 |l::ls,o::st,i+1,l1,o1,l2,o2,h,k=>by
  have:=cntS_set b ls st i l1 o1 l2 o2 (by simpa using h) (by simpa using k)
  simp only[List.set_cons_succ,cntS];omega
theorem cntS_append(b:Nat):∀(ls ls':List Loc)(st st':List AObj),ls.length=st.length->cntS b (ls++ls') (st++st')=cntS b ls st+cntS b ls' st'
 |[],_,[],_,_=>by simp[cntS]
 |[],_,_::_,_,h=>by simp at h
 |_::_,_,[],_,h=>by simp at h
 |l::ls,ls',o::st,st',h=>by
  simp only[List.cons_append,cntS]
  rw[cntS_append b ls ls' st st' (by simpa using h)];omega
theorem cntB_get(b:Nat):∀(β:List BxG)(bx:List (List AV))(i:Nat) g r,β[i]?=some g->bx[i]?=some r->(if g.blk=some b then 1 else 0)+cntL b r g.vals<=cntB b β bx
 |[],_,_,_,_,h,_=>by simp at h
 |_::_,[],_,_,_,_,h=>by simp at h
 |g::β,r::bx,0,g',r',h,k=>by simp at h k;subst h;subst k;simp only[cntB];omega
 |g::β,r::bx,i+1,g',r',h,k=>by
  have:=cntB_get b β bx i g' r' (by simpa using h) (by simpa using k)
  simp only[cntB];omega
theorem cntB_set(b:Nat):∀(β:List BxG)(bx:List (List AV))(i:Nat) g r g' r',β[i]?=some g->bx[i]?=some r->
  cntB b (β.set i g') (bx.set i r')+((if g.blk=some b then 1 else 0)+cntL b r g.vals)=cntB b β bx+((if g'.blk=some b then 1 else 0)+cntL b r' g'.vals)
 |[],_,_,_,_,_,_,h,_=>by simp at h
 |_::_,[],_,_,_,_,_,_,h=>by simp at h
 |g::β,r::bx,0,g1,r1,g2,r2,h,k=>by simp at h k;subst h;subst k;simp only[List.set_cons_zero,cntB];omega
 |g::β,r::bx,i+1,g1,r1,g2,r2,h,k=>by
  have:=cntB_set b β bx i g1 r1 g2 r2 (by simpa using h) (by simpa using k)
  simp only[List.set_cons_succ,cntB];omega
theorem cntB_two(b:Nat):∀(β:List BxG)(bx:List (List AV))(i j:Nat) g r g' r',i≠j->β[i]?=some g->bx[i]?=some r->β[j]?=some g'->bx[j]?=some r'->
  ((if g.blk=some b then 1 else 0)+cntL b r g.vals)+((if g'.blk=some b then 1 else 0)+cntL b r' g'.vals)<=cntB b β bx
 |[],_,_,_,_,_,_,_,_,h,_,_,_=>by simp at h
 |_::_,[],_,_,_,_,_,_,_,_,h,_,_=>by simp at h
 |l::ls,o::st,0,0,_,_,_,_,h,_,_,_,_=>absurd rfl h
 |l::ls,o::st,0,j+1,l1,o1,l2,o2,_,h1,h2,h3,h4=>by
  simp at h1 h2;subst h1;subst h2
  have:=cntB_get b ls st j l2 o2 (by simpa using h3) (by simpa using h4)
  simp only[cntB];omega
 |l::ls,o::st,i+1,0,l1,o1,l2,o2,_,h1,h2,h3,h4=>by
  simp at h3 h4;subst h3;subst h4
  have:=cntB_get b ls st i l1 o1 (by simpa using h1) (by simpa using h2)
  simp only[cntB];omega
 |l::ls,o::st,i+1,j+1,l1,o1,l2,o2,h,h1,h2,h3,h4=>by
  have:=cntB_two b ls st i j l1 o1 l2 o2 (by omega) (by simpa using h1) (by simpa using h2) (by simpa using h3) (by simpa using h4)
  simp only[cntB];omega
structure BoxAt (w:World)(G:Ghost)(row:List AV)(g:BxG):Prop where
 rep:RepC w G row g.vals
 cel:AV.allCells row=true
 lies:(g.blk=none/\row=[])\/∃b c e,g.blk=some b/\w.heap[b]?=some (.cells c e (0,0))/\row.length<=c.size/\G.tip b=some 0/\∀(k:Nat) x,g.vals[k]?=some x->w.cell? ⟨b,k,none⟩=some x
structure RepB (w:World)(G:Ghost)(β:List BxG)(bx:Boxes):Prop where
 len:β.length=bx.length
 box:∀(j:Nat) row g,bx[j]?=some row->β[j]?=some g->BoxAt w G row g
def Untouched(w:World)(G:Ghost)(w':World)(G':Ghost)(b:Nat):Prop:=G'.tip b=G.tip b/\w'.heap[b]?=w.heap[b]?
theorem cell_of_heap{b o:Nat}(h:w'.heap[b]?=w.heap[b]?):w'.cell? ⟨b,o,none⟩=w.cell? ⟨b,o,none⟩:=by simp[World.cell?,h]
theorem BoxAt.stp{row:List AV}{g:BxG}(h:BoxAt w G row g)(hs:Stp w G w' G')(hf:∀b,0<(if g.blk=some b then 1 else 0)+cntL b row g.vals->Untouched w G w' G' b):BoxAt w' G' row g where
 rep:=h.rep.mono hs fun b hb=>hf b (by omega)
 cel:=h.cel
 lies:=by
  rcases h.lies with h|⟨b,c,e,h1,h2,h3,h4,h5⟩
  ·exact .inl h
  ·obtain⟨a1,a2⟩:=hf b (by simp[h1];omega)
   exact .inr ⟨b,c,e,h1,a2.trans h2,h3,a1.trans h4,fun k x hx=>(cell_of_heap a2).trans (h5 k x hx)⟩
theorem RepO.stp{ob:AObj}{loc:Loc}(h:RepO w G ob loc)(hs:Stp w G w' G')(hf:∀b,0<cntO b loc ob->Untouched w G w' G' b):RepO w' G' ob loc:=by
 cases ob with
 |rows ver sz rows=>
  obtain⟨h1,h2,h3⟩:=h
  refine⟨h1,h2,h3.fit,h3.cel,h3.len,h3.size,h3.vlen,fun i r xs e1 e2=>?_,?_⟩
  ·refine(h3.reps i r xs e1 e2).mono hs fun b hb=>hf b ?_
   have:=cntLL_get b rows loc.vals i r xs e1 e2
   simp only[cntO];omega
  ·rcases h3.lies with h|⟨b,off,c,e,g1,g2,g3,g4,g5,g6,g7⟩
   ·exact .inl h
   ·obtain⟨a1,a2⟩:=hf b (by
     have:loc.blk=some b:=by unfold Loc.blk;rw[if_neg (by omega),g1];rfl
     simp[cntO,this];omega)
    exact .inr ⟨b,off,c,e,g1,g2,a2.trans g3,g4,g5,a1.trans g6,fun i xs j x e1 e2=>(cell_of_heap a2).trans (g7 i xs j x e1 e2)⟩
 |map es=>
  obtain⟨h1,h2,b,es',clock,h3,h4,h5,h6,h7⟩:=h
  obtain⟨a1,a2⟩:=hf b (by
   have:loc.blk=some b:=by unfold Loc.blk;rw[if_neg (by omega),h3];rfl
   simp[cntO,this])
  refine⟨h1,h2,b,es',clock,h3,a2.trans h4,a1.trans h5,h6,fun i k v e e1 e2=>?_⟩
  obtain⟨g1,g2,g3,g4⟩:=h7 i k v e e1 e2
  exact⟨g1.stp hs fun b hb=>by rw[cnt_noOwn b k _ g4]at hb;omega,g2.stp hs fun b hb=>by rw[cnt_noOwn b v _ g3]at hb;omega,g3,g4⟩
theorem RepV.held{a:AV}{v:Value}{b:Nat}(h:RepV w G a v):0<cnt b a v->b<w.heap.size:=by
 induction h with
 |agg cs vs hl h ih=>
  intro hb
  simp only[cnt]at hb
  have key:∀(cs:List AV) (vs:List Value),0<cntL b cs vs->∃(i:Nat) (c:AV) (v:Value),cs[i]?=some c/\vs[i]?=some v/\0<cnt b c v:=by
   intro cs
   induction cs with
   |nil=>intro vs h;rw[cntL_nil]at h;omega
   |cons c cs ih=>
    intro vs h
    cases vs with
    |nil=>simp[cntL]at h
    |cons v vs=>
     simp only[cntL]at h
     by_cases hc:0<cnt b c v
     ·exact⟨0,c,v,rfl,rfl,hc⟩
     ·obtain⟨i,c',v',e1,e2,e3⟩:=ih vs (by omega)
      exact⟨i+1,c',v',by simpa using e1,by simpa using e2,e3⟩
  obtain⟨i,c,v,e1,e2,e3⟩:=key cs vs.toList hb
  exact ih i c v e1 (by simpa using e2) e3
 |tup cs vs hl h ih=>
  intro hb
  simp only[cnt]at hb
  have key:∀(cs:List AV) (vs:List Value),0<cntL b cs vs->∃(i:Nat) (c:AV) (v:Value),cs[i]?=some c/\vs[i]?=some v/\0<cnt b c v:=by
   intro cs
   induction cs with
   |nil=>intro vs h;rw[cntL_nil]at h;omega
   |cons c cs ih=>
    intro vs h
    cases vs with
    |nil=>simp[cntL]at h
    |cons v vs=>
     simp only[cntL]at h
     by_cases hc:0<cnt b c v
     ·exact⟨0,c,v,rfl,rfl,hc⟩
     ·obtain⟨i,c',v',e1,e2,e3⟩:=ih vs (by omega)
      exact⟨i+1,c',v',by simpa using e1,by simpa using e2,e3⟩
  obtain⟨i,c,v,e1,e2,e3⟩:=key cs vs.toList hb
  exact ih i c v e1 (by simpa using e2) e3
 |own sz rows a cap hsp hcap hfit hno hpu hce hc hr htip hblk ih=>
  intro hb
  simp only[cnt]at hb
  split at hb
  ·rename_i e
   obtain⟨c,e',h1,_⟩:=hblk
   rw[<-e];exact(Array.getElem?_eq_some_iff.1 h1).1
  ·omega
 |raw sz rows a cap hsp hcap hfit hno hpu hce hc hr htip hblk ih=>
  intro hb
  simp only[cnt]at hb
  split at hb
  ·rename_i e
   obtain⟨c,e',h1,_⟩:=hblk
   rw[<-e];exact(Array.getElem?_eq_some_iff.1 h1).1
  ·omega
 |_=>intro hb;simp[cnt]at hb
theorem RepC.held{as:List AV}{xs:List Value}{b:Nat}(h:RepC w G as xs)(hb:0<cntL b as xs):b<w.heap.size:=by
 have:RepV w G (.agg as) (.agg xs.toArray):=.agg _ _ (by simpa using h.1) fun i c v e1 e2=>h.2 i c v e1 (by simpa using e2)
 exact this.held (by simpa [cnt] using hb)
theorem RepO.held{ob:AObj}{loc:Loc}{b:Nat}(h:RepO w G ob loc)(hb:0<cntO b loc ob):b<w.heap.size:=by
 have blk:loc.blk=some b->b<w.heap.size:=by
  intro e
  unfold Loc.blk at e
  split at e
  ·cases e
  ·rename_i hcap
   cases ob with
   |rows ver sz rows=>
    obtain⟨_,_,h3⟩:=h
    rcases h3.lies with⟨h0,_⟩|⟨b',off,c,e',g1,g2,g3,_⟩
    ·exact absurd h0 hcap
    ·rw[g1]at e;simp at e;subst e;exact(Array.getElem?_eq_some_iff.1 g3).1
   |map es=>
    obtain⟨_,_,b',es',clock,h3,h4,_⟩:=h
    rw[h3]at e;simp at e;subst e;exact(Array.getElem?_eq_some_iff.1 h4).1
 cases ob with
 |rows ver sz rows=>
  simp only[cntO]at hb
  split at hb
  ·exact blk (by assumption)
  ·obtain⟨_,_,h3⟩:=h
   have key:∀(rs:List (List AV)) (xs:List (List Value)),0<cntLL b rs xs->∃(i:Nat) (r:List AV) (x:List Value),rs[i]?=some r/\xs[i]?=some x/\0<cntL b r x:=by
    intro rs
    induction rs with
    |nil=>intro xs h;simp[cntLL]at h
    |cons r rs ih=>
     intro xs h
     cases xs with
     |nil=>simp[cntLL]at h
     |cons x xs=>
      simp only[cntLL]at h
      by_cases hc:0<cntL b r x
      ·exact⟨0,r,x,rfl,rfl,hc⟩
      ·obtain⟨i,r',x',e1,e2,e3⟩:=ih xs (by omega)
       exact⟨i+1,r',x',by simpa using e1,by simpa using e2,e3⟩
   obtain⟨i,r,x,e1,e2,e3⟩:=key rows loc.vals (by omega)
   exact(h3.reps i r x e1 e2).held e3
 |map es=>
  simp only[cntO]at hb
  split at hb
  ·exact blk (by assumption)
  ·omega
theorem Inv.held{st:Store}{b:Nat}(h:Inv w G st)(hb:0<cntS b G.ls st):b<w.heap.size:=by
 have key:∀(ls:List Loc) (st:List AObj),0<cntS b ls st->∃(i:Nat) (l:Loc) (o:AObj),ls[i]?=some l/\st[i]?=some o/\0<cntO b l o:=by
  intro ls
  induction ls with
  |nil=>intro st h;simp[cntS]at h
  |cons l ls ih=>
   intro st h
   cases st with
   |nil=>simp[cntS]at h
   |cons o st=>
    simp only[cntS]at h
    by_cases hc:0<cntO b l o
    ·exact⟨0,l,o,rfl,rfl,hc⟩
    ·obtain⟨i,l',o',e1,e2,e3⟩:=ih st (by omega)
     exact⟨i+1,l',o',by simpa using e1,by simpa using e2,e3⟩
 obtain⟨i,l,o,e1,e2,e3⟩:=key G.ls st hb
 exact(h.obj i o l e2 e1).held e3
theorem RepB.held{bx:Boxes}{b:Nat}(h:RepB w G β bx)(hb:0<cntB b β bx):b<w.heap.size:=by
 have key:∀(β:List BxG) (bx:Boxes),0<cntB b β bx->∃(i:Nat) (g:BxG) (r:List AV),β[i]?=some g/\bx[i]?=some r/\0<(if g.blk=some b then 1 else 0)+cntL b r g.vals:=by
  intro β
  induction β with
  |nil=>intro st h;simp[cntB]at h
  |cons l ls ih=>
   intro st h
   cases st with
   |nil=>simp[cntB]at h
   |cons o st=>
    simp only[cntB]at h
    by_cases hc:0<(if l.blk=some b then 1 else 0)+cntL b o l.vals
    ·exact⟨0,l,o,rfl,rfl,hc⟩
    ·obtain⟨i,l',o',e1,e2,e3⟩:=ih st (by omega)
     exact⟨i+1,l',o',by simpa using e1,by simpa using e2,e3⟩
 obtain⟨i,g,r,e1,e2,e3⟩:=key β bx hb
 have hB:=h.box i r g e2 e1
 by_cases hc:0<cntL b r g.vals
 ·exact hB.rep.held hc
 ·split at e3
  ·rename_i hblk
   rcases hB.lies with⟨h0,_⟩|⟨b',c,e',g1,g2,_⟩
   ·rw[h0]at hblk;cases hblk
   ·rw[g1]at hblk;cases hblk;exact(Array.getElem?_eq_some_iff.1 g2).1
  ·omega
end Ax
namespace Ax
open Go
variable {P:Program}{w w':World}{G G':Ghost}{β β':List BxG}{ρ:Operand->Value}{o:Oper}
structure Act1 (w:World)(G:Ghost)(β:List BxG)(st:Store)(bx:Boxes)(cO:Nat->Nat)(w':World)(G':Ghost)(β':List BxG)(st':Store)(bx':Boxes)(e:Ent)(v:Value):Prop where
 stp:Stp w G w' G'
 inv:Inv w' G' st'
 box:RepB w' G' β' bx'
 rep:RepE w' G' β' e v
 cnt:∀b,cntE b e v+cntB b β' bx'+cntS b G'.ls st'<=cO b+cntB b β bx+cntS b G.ls st+(if w.heap.size<=b then 1 else 0)
 far:∀b,cO b+cntB b β bx+cntS b G.ls st=0->b<w.heap.size->Untouched w G w' G' b
 size:w.heap.size<=w'.heap.size
 os:w'.os=w.os
 out:w'.output=w.output
theorem Act1.quiet{st:Store}{bx:Boxes}{cO:Nat->Nat}{e:Ent}{v:Value}(hI:Inv w G st)(hB:RepB w G β bx)(hr:RepE w G β e v)(hc:∀b,cntE b e v<=cO b):Act1 w G β st bx cO w G β st bx e v where
 stp:=Stp.refl w G
 inv:=hI
 box:=hB
 rep:=hr
 cnt:=fun b=>by have:=hc b;omega
 far:=fun _ _ _=>⟨rfl,rfl⟩
 size:=Nat.le_refl _
 os:=rfl
 out:=rfl
def Ghost.new(G:Ghost)(n:Nat)(x:Option Nat)(l:List Loc):Ghost:=⟨G.ls++l,fun b=>if b=n then x else G.tip b⟩
theorem cell_push{ob:Obj}(hw:w'.heap=w.heap.push ob){b o:Nat}(hb:b<w.heap.size):w'.cell? ⟨b,o,none⟩=w.cell? ⟨b,o,none⟩:=by
 refine cell_of_heap ?_
 rw[hw,Array.getElem?_push,if_neg (by omega)]
theorem stp_new{ob:Obj}(hw:w'.heap=w.heap.push ob)(x:Option Nat)(l:List Loc):Stp w G w' (G.new w.heap.size x l) where
 imm:=fun b o hi=>by
  refine⟨cell_push hw hi.1,by rw[hw];simp;have:=hi.1;omega,fun p hp=>?_⟩
  have:¬b=w.heap.size:=by have:=hi.1;omega
  simp only[Ghost.new,if_neg this]at hp
  exact hi.2 p hp
 ids:=fun id loc hl=>by
  refine⟨loc,?_,Nat.le_refl _,fun _=>rfl⟩
  simp only[Ghost.new]
  rw[List.getElem?_append_left (List.getElem?_eq_some_iff.1 hl).1]
  exact hl
theorem untouched_new{ob:Obj}(hw:w'.heap=w.heap.push ob)(x:Option Nat)(l:List Loc){b:Nat}(hb:b<w.heap.size):Untouched w G w' (G.new w.heap.size x l) b:=by
 refine⟨by simp only[Ghost.new];rw[if_neg (by omega)],?_⟩
 rw[hw,Array.getElem?_push,if_neg (by omega)]
theorem RepV.push{ob:Obj}(hw:w'.heap=w.heap.push ob)(x:Option Nat)(l:List Loc){a:AV}{v:Value}(h:RepV w G a v):RepV w' (G.new w.heap.size x l) a v:=
 h.stp (stp_new hw x l) fun _ hb=>untouched_new hw x l (h.held hb)
theorem RepC.push{ob:Obj}(hw:w'.heap=w.heap.push ob)(x:Option Nat)(l:List Loc){as:List AV}{xs:List Value}(h:RepC w G as xs):RepC w' (G.new w.heap.size x l) as xs:=
 ⟨h.1,fun i c v e1 e2=>(h.2 i c v e1 e2).push hw x l⟩
theorem inv_new{ob:Obj}(hw:w'.heap=w.heap.push ob)(x:Option Nat){st:Store}(hI:Inv w G st):Inv w' (G.new w.heap.size x []) st where
 len:=by simp[Ghost.new,hI.len]
 obj:=fun id ob' loc h1 h2=>by
  simp only[Ghost.new,List.append_nil]at h2
  have h:=hI.obj id ob' loc h1 h2
  exact h.stp (stp_new hw x []) fun b hb=>untouched_new hw x [] (h.held hb)
 tips:=fun b p hp=>by
  simp only[Ghost.new]at hp
  rw[hw]
  simp only[Array.size_push]
  split at hp
  ·omega
  ·have:=hI.tips b p hp;omega
theorem inv_new_obj{ob:Obj}(hw:w'.heap=w.heap.push ob)(x:Option Nat){st:Store}(hI:Inv w G st){loc:Loc}{ao:AObj}(h:RepO w' (G.new w.heap.size x [loc]) ao loc):Inv w' (G.new w.heap.size x [loc]) (st++[ao]) where
 len:=by simp[Ghost.new,hI.len]
 obj:=fun id ob' l h1 h2=>by
  simp only[Ghost.new]at h2
  by_cases hid:id<st.length
  ·rw[List.getElem?_append_left hid]at h1
   rw[List.getElem?_append_left (by rw[hI.len];exact hid)]at h2
   have h:=hI.obj id ob' l h1 h2
   exact h.stp (stp_new hw x [loc]) fun b hb=>untouched_new hw x [loc] (h.held hb)
  ·rw[List.getElem?_append_right (by omega)]at h1
   rw[List.getElem?_append_right (by rw[hI.len];omega)]at h2
   rw[hI.len]at h2
   have h0:id-st.length=0:=by
    have:=(List.getElem?_eq_some_iff.1 h1).1;simp at this;omega
   rw[h0]at h1 h2
   simp at h1 h2
   subst h1;subst h2
   exact h
 tips:=fun b p hp=>by
  simp only[Ghost.new]at hp
  rw[hw]
  simp only[Array.size_push]
  split at hp
  ·omega
  ·have:=hI.tips b p hp;omega
theorem repB_new{ob:Obj}(hw:w'.heap=w.heap.push ob)(x:Option Nat)(l:List Loc){bx:Boxes}(hB:RepB w G β bx):RepB w' (G.new w.heap.size x l) β bx where
 len:=hB.len
 box:=fun j row g h1 h2=>by
  have h:=hB.box j row g h1 h2
  refine h.stp (stp_new hw x l) fun b hb=>untouched_new hw x l (hB.held (b:=b) ?_)
  have:=cntB_get b β bx j g row h2 h1
  omega
theorem act_new{ob:Obj}(hw:w'.heap=w.heap.push ob)(hos:w'.os=w.os)(hout:w'.output=w.output)(x:Option Nat){st:Store}{bx:Boxes}(hI:Inv w G st)(hB:RepB w G β bx){cO:Nat->Nat}{a:AV}{v:Value}
  (hr:RepV w' (G.new w.heap.size x []) a v)(hc:∀b,cnt b a v<=if b=w.heap.size then 1 else 0):Act1 w G β st bx cO w' (G.new w.heap.size x []) β st bx (.val a) v where
 stp:=stp_new hw x []
 inv:=inv_new hw x hI
 box:=repB_new hw x [] hB
 rep:=hr
 cnt:=fun b=>by
  have:=hc b
  simp only[cntE,Ghost.new,List.append_nil]
  split at this
  ·rename_i e;subst e;simp;omega
  ·omega
 far:=fun b _ hb=>untouched_new hw x [] hb
 size:=by rw[hw];simp
 os:=hos
 out:=hout
theorem act_new_obj{ob:Obj}(hw:w'.heap=w.heap.push ob)(hos:w'.os=w.os)(hout:w'.output=w.output){st:Store}{bx:Boxes}(hI:Inv w G st)(hB:RepB w G β bx){cO:Nat->Nat}{a:AV}{v:Value}{loc:Loc}{ao:AObj}
  (h:RepO w' (G.new w.heap.size (some 0) [loc]) ao loc)(hr:RepV w' (G.new w.heap.size (some 0) [loc]) a v)(hn:a.noOwn=true)(hc:∀b,cntO b loc ao<=(if b=w.heap.size then 1 else 0)+cO b) :
  Act1 w G β st bx cO w' (G.new w.heap.size (some 0) [loc]) β (st++[ao]) bx (.val a) v where
 stp:=stp_new hw _ _
 inv:=inv_new_obj hw _ hI h
 box:=repB_new hw _ _ hB
 rep:=hr
 cnt:=fun b=>by
  have h1:=hc b
  simp only[cntE,Ghost.new,cnt_noOwn b a v hn]
  rw[cntS_append b _ _ _ _ hI.len]
  simp only[cntS]
  split at h1
  ·rename_i e;subst e;simp;omega
  ·omega
 far:=fun b _ hb=>untouched_new hw _ _ hb
 size:=by rw[hw];simp
 os:=hos
 out:=hout
theorem flatten_get{sz:Nat}{α:Type}:∀(rows:List (List α))(i j:Nat) r c,(∀r∈rows,r.length=sz)->rows[i]?=some r->r[j]?=some c->rows.flatten[i*sz+j]?=some c
 |[],_,_,_,_,_,h,_=>by simp at h
 |r0::rows,0,j,r,c,hf,h1,h2=>by
  simp at h1;subst h1
  simp only[List.flatten_cons,Nat.zero_mul,Nat.zero_add]
  rw[List.getElem?_append_left (List.getElem?_eq_some_iff.1 h2).1]
  exact h2
 |r0::rows,i+1,j,r,c,hf,h1,h2=>by
  have ih:=flatten_get rows i j r c (fun r hr=>hf r (by simp[hr])) (by simpa using h1) h2
  have h0:r0.length=sz:=hf r0 (by simp)
  simp only[List.flatten_cons]
  rw[List.getElem?_append_right (by rw[h0,Nat.succ_mul];omega),h0]
  rw[show (i+1)*sz+j-sz=i*sz+j by rw[Nat.succ_mul];omega]
  exact ih
theorem fits_iff{sz:Nat}{rows:List (List AV)}:fits sz rows=true↔∀r∈rows,r.length=sz:=by
 simp[fits]
theorem flatten_length{sz:Nat}{α:Type}:∀(rows:List (List α)),(∀r∈rows,r.length=sz)->rows.flatten.length=rows.length*sz
 |[],_=>by simp
 |r::rows,h=>by
  simp only[List.flatten_cons,List.length_append,List.length_cons]
  rw[flatten_length rows fun r hr=>h r (by simp[hr]),h r (by simp),Nat.succ_mul]
  omega
def chop{α:Type}(sz:Nat):Nat->List α->List (List α)
 |0,_=>[]
 |n+1,xs=>xs.take sz::chop sz n (xs.drop sz)
theorem chop_length{α:Type}(sz:Nat):∀(n:Nat)(xs:List α),(chop sz n xs).length=n
 |0,_=>rfl
 |n+1,xs=>by simp[chop,chop_length sz n]
theorem chop_get{α:Type}(sz:Nat):∀(n:Nat)(xs:List α)(i:Nat) ys,(chop sz n xs)[i]?=some ys->ys=(xs.drop (i*sz)).take sz
 |0,_,_,_,h=>by simp[chop]at h
 |n+1,xs,0,ys,h=>by simp[chop]at h;simp[h]
 |n+1,xs,i+1,ys,h=>by
  simp only[chop,List.getElem?_cons_succ]at h
  rw[chop_get sz n _ i ys h,List.drop_drop]
  congr 2
  rw[Nat.succ_mul];omega
theorem rows_drop{sz:Nat}:∀(rows:List (List AV))(i:Nat) r,(∀r∈rows,r.length=sz)->rows[i]?=some r->(rows.flatten.drop (i*sz)).take sz=r
 |[],_,_,_,h=>by simp at h
 |r0::rows,0,r,hf,h=>by
  simp at h;subst h
  have h0:r0.length=sz:=hf r0 (by simp)
  simp[<-h0]
 |r0::rows,i+1,r,hf,h=>by
  have ih:=rows_drop rows i r (fun r hr=>hf r (by simp[hr])) (by simpa using h)
  have h0:r0.length=sz:=hf r0 (by simp)
  simp only[List.flatten_cons]
  rw[show (i+1)*sz=r0.length+i*sz by rw[h0,Nat.succ_mul];omega,<-List.drop_drop,List.drop_left]
  exact ih
theorem cntLL_chop{sz:Nat}(b:Nat):∀(rows:List (List AV))(xs:List Value),(∀r∈rows,r.length=sz)->rows.flatten.length=xs.length->cntLL b rows (chop sz rows.length xs)=cntL b rows.flatten xs
 |[],xs,_,_=>by simp[cntLL,cntL_nil]
 |r::rows,xs,hf,hl=>by
  have h0:r.length=sz:=hf r (by simp)
  simp only[List.length_cons,chop,cntLL,List.flatten_cons]
  rw[List.flatten_cons,List.length_append]at hl
  rw[cntLL_chop b rows (xs.drop sz) (fun r hr=>hf r (by simp[hr])) (by rw[List.length_drop];omega)]
  have:=cntL_append b r rows.flatten (xs.take sz) (xs.drop sz) (by rw[List.length_take];omega)
  rw[List.take_append_drop]at this
  omega
theorem rowsAt_of_flat{sz:Nat}{rows:List (List AV)}{loc:Loc}{b off:Nat}{c:Array Value}{e:TypeId}{xs:List Value}(hf:fits sz rows=true)(hcel:∀r∈rows,AV.allCells r=true)(hrep:RepC w G rows.flatten xs)
  (h1:loc.len=rows.length)(h2:loc.sz=sz)(h3:loc.vals=chop sz rows.length xs)(h4:loc.a=some ⟨b,off,none⟩)(h5:0<loc.cap)(h6:w.heap[b]?=some (.cells c e (0,0)))(h7:off+loc.cap*sz<=c.size)
  (h8:rows.length<=loc.cap) (h9:G.tip b=some 0) (h10:∀(k:Nat) x,xs[k]?=some x->w.cell? ⟨b,off+k,none⟩=some x):RowsAt w G sz rows loc where
 fit:=hf
 cel:=hcel
 len:=h1
 size:=h2
 vlen:=by rw[h3,chop_length]
 reps:=fun i r ys e1 e2=>by
  rw[h3]at e2
  rw[chop_get _ _ _ _ _ e2,<-rows_drop rows i r (fits_iff.1 hf) e1]
  exact(hrep.drop _).take _
 lies:=by
  refine .inr ⟨b,off,c,e,h4,h5,h6,h7,h8,h9,fun i ys j x e1 e2=>?_⟩
  rw[h3]at e1
  rw[chop_get _ _ _ _ _ e1,List.getElem?_take]at e2
  split at e2
  ·rw[List.getElem?_drop]at e2;exact h10 _ x e2
  ·cases e2
end Ax
namespace Ax
open Go
variable {P:Program}{w w':World}{G G':Ghost}{β β':List BxG}{ρ:Operand->Value}{o:Oper}
theorem cell_new{c:Array Value}{e:TypeId}(hw:w'.heap=w.heap.push (.cells c e)){k:Nat}{x:Value}(h:c[k]?=some x):w'.cell? ⟨w.heap.size,k,none⟩=some x:=by
 simp[World.cell?,hw,h]
theorem heap_new{ob:Obj}(hw:w'.heap=w.heap.push ob):w'.heap[w.heap.size]?=some ob:=by simp[hw]
theorem new_rows{sz cap:Nat}{rows:List (List AV)}{c:Array Value}{e:TypeId}{xs:List Value}{l:List Loc}(hw:w'.heap=w.heap.push (.cells c e))(hf:fits sz rows=true)(hcel:∀r∈rows,AV.allCells r=true)
  (hrep:RepC w G rows.flatten xs)(h5:0<cap)(h7:cap*sz<=c.size)(h8:rows.length<=cap)(hx:∀(k:Nat) x,xs[k]?=some x->c[k]?=some x)(ver:Nat) :
  RowsAt w' (G.new w.heap.size (some 0) l) sz rows ⟨some ⟨w.heap.size,0,none⟩,cap,rows.length,sz,ver,false,chop sz rows.length xs⟩:=
 rowsAt_of_flat hf hcel (hrep.push hw _ _) rfl rfl rfl rfl h5 (heap_new hw) (by simpa using h7) h8 (by simp[Ghost.new]) fun k x hk=>by
  rw[Nat.zero_add];exact cell_new hw (hx k x hk)
theorem act_rows{sz cap:Nat}{rows:List (List AV)}{c:Array Value}{e:TypeId}{xs:List Value}{st:Store}{bx:Boxes}(hI:Inv w G st)(hB:RepB w G β bx){cO:Nat->Nat}(hw:w'.heap=w.heap.push (.cells c e))(hos:w'.os=w.os)(hout:w'.output=w.output)
  (hf:fits sz rows=true)(hcel:∀r∈rows,AV.allCells r=true)(hrep:RepC w G rows.flatten xs)(h5:0<cap)(h7:cap*sz<=c.size)(h8:rows.length<=cap)
  (hx:∀(k:Nat) x,xs[k]?=some x->c[k]?=some x) (hc:∀b,cntL b rows.flatten xs<=cO b) :
  ∃G',Act1 w G β st bx cO w' G' β (st++[.rows 0 sz rows]) bx (.val (.mu st.length 0)) (.slice (some ⟨w.heap.size,0,none⟩) rows.length cap)/\
   Act1 w G β st bx cO w' G' β (st++[.rows 0 sz rows]) bx (.val (.ptr st.length 0 0 0)) (.pointer (some ⟨w.heap.size,0,none⟩)):=by
 have hR:=new_rows (l:=[⟨some ⟨w.heap.size,0,none⟩,cap,rows.length,sz,0,false,chop sz rows.length xs⟩]) hw hf hcel hrep h5 h7 h8 hx 0
 have hcnt:∀b,cntO b ⟨some ⟨w.heap.size,0,none⟩,cap,rows.length,sz,0,false,chop sz rows.length xs⟩ (.rows 0 sz rows)<=(if b=w.heap.size then 1 else 0)+cO b:=by
  intro b
  simp only[cntO,Loc.blk]
  rw[cntLL_chop b rows xs (fits_iff.1 hf) hrep.1,if_neg (show ¬cap=0 by omega)]
  have:=hc b
  simp only[Option.map_some,Option.some.injEq]
  by_cases hb:b=w.heap.size
  ·subst hb;simp;omega
  ·rw[if_neg (fun h=>hb h.symm),if_neg hb];omega
 have hl:(G.new w.heap.size (some 0) [⟨some ⟨w.heap.size,0,none⟩,cap,rows.length,sz,0,false,chop sz rows.length xs⟩]).ls[st.length]?=some ⟨some ⟨w.heap.size,0,none⟩,cap,rows.length,sz,0,false,chop sz rows.length xs⟩:=by
  simp only[Ghost.new]
  rw[List.getElem?_append_right (by rw[hI.len];exact Nat.le_refl _),hI.len]
  simp
 refine⟨_,act_new_obj hw hos hout hI hB ⟨rfl,rfl,hR⟩ (.mu _ _ _ _ ⟨_,_,_,rfl⟩ hl (Nat.le_refl _) fun _=>rfl) rfl hcnt,
  act_new_obj hw hos hout hI hB ⟨rfl,rfl,hR⟩ (.ptr _ _ _ _ _ _ ⟨_,rfl⟩ hl (Nat.le_refl _) fun _=>⟨_,rfl,by simp⟩) rfl hcnt⟩
theorem rep_own{sz cap:Nat}{rows:List (List AV)}{b off:Nat}{c:Array Value}{e:TypeId}{xs:List Value}(hf:fits sz rows=true)(hcel:∀r∈rows,AV.allCells r=true)(hno:∀r∈rows,AV.noOwnL r=true)(hpu:∀r∈rows,AV.allPure r=true)
  (hrep:RepC w G rows.flatten xs)(h6:w.heap[b]?=some (.cells c e (0,0)))(h7:off+cap*sz<=c.size)(h8:rows.length<=cap)(h9:G.tip b=some (off+rows.length*sz))
  (hx:∀(k:Nat) x,xs[k]?=some x->c[off+k]?=some x):RepV w G (.own sz rows) (.slice (some ⟨b,off,none⟩) rows.length cap):=by
 have hcell:∀(k:Nat) x,xs[k]?=some x->w.cell? ⟨b,off+k,none⟩=some x:=fun k x h=>by simp[World.cell?,h6,hx k x h]
 have key:∀(i:Nat) r (j:Nat) a,rows[i]?=some r->r[j]?=some a->∃v,w.cell? ⟨b,off+(i*sz+j),none⟩=some v/\RepV w G a v:=by
  intro i r j a h1 h2
  have h3:=flatten_get rows i j r a (fits_iff.1 hf) h1 h2
  have hlt:i*sz+j<xs.length:=by rw[<-hrep.1];exact(List.getElem?_eq_some_iff.1 h3).1
  exact⟨_,hcell _ _ (List.getElem?_eq_getElem hlt),hrep.2 _ _ _ h3 (List.getElem?_eq_getElem hlt)⟩
 refine .own sz rows ⟨b,off,none⟩ cap rfl h8 hf hno hpu hcel (fun i r j a h1 h2=>?_) (fun i r j a v h1 h2 h3=>?_) h9 ⟨c,e,h6,h7⟩
 ·obtain⟨v,h,_⟩:=key i r j a h1 h2;exact⟨v,h⟩
 ·obtain⟨v',h,h'⟩:=key i r j a h1 h2
  rw[h]at h3;cases h3;exact h'
theorem act_own{sz cap:Nat}{rows:List (List AV)}{c:Array Value}{e:TypeId}{xs:List Value}{st:Store}{bx:Boxes}(hI:Inv w G st)(hB:RepB w G β bx){cO:Nat->Nat}(hw:w'.heap=w.heap.push (.cells c e))(hos:w'.os=w.os)(hout:w'.output=w.output)
  (hf:fits sz rows=true)(hcel:∀r∈rows,AV.allCells r=true)(hno:∀r∈rows,AV.noOwnL r=true)(hpu:∀r∈rows,AV.allPure r=true)
  (hrep:RepC w G rows.flatten xs) (h7:cap*sz<=c.size) (h8:rows.length<=cap)
  (hx:∀(k:Nat) x,xs[k]?=some x->c[k]?=some x) :
  ∃G',Act1 w G β st bx cO w' G' β st bx (.val (.own sz rows)) (.slice (some ⟨w.heap.size,0,none⟩) rows.length cap):=by
 refine⟨_,act_new hw hos hout (some (rows.length*sz)) hI hB (rep_own hf hcel hno hpu (hrep.push hw _ _) (heap_new hw) (by simpa using h7) h8 (by simp[Ghost.new]) fun k x hk=>by rw[Nat.zero_add];exact hx k x hk) fun b=>?_⟩
 simp only[cnt]
 split
 ·rename_i h;rw[if_pos h.symm];omega
 ·omega
theorem rep_raw{sz cap:Nat}{rows:List (List AV)}{b off:Nat}{c:Array Value}{e:TypeId}{xs:List Value}(hf:fits sz rows=true)(hcel:∀r∈rows,AV.allCells r=true)(hno:∀r∈rows,AV.noOwnL r=true)(hpu:∀r∈rows,AV.allPure r=true)
  (hrep:RepC w G rows.flatten xs)(h6:w.heap[b]?=some (.cells c e (0,0)))(h7:off+cap*sz<=c.size)(h8:rows.length<=cap)(h9:G.tip b=some 0)
  (hx:∀(k:Nat) x,xs[k]?=some x->c[off+k]?=some x):RepV w G (.raw sz rows) (.slice (some ⟨b,off,none⟩) rows.length cap):=by
 have hcell:∀(k:Nat) x,xs[k]?=some x->w.cell? ⟨b,off+k,none⟩=some x:=fun k x h=>by simp[World.cell?,h6,hx k x h]
 have key:∀(i:Nat) r (j:Nat) a,rows[i]?=some r->r[j]?=some a->∃v,w.cell? ⟨b,off+(i*sz+j),none⟩=some v/\RepV w G a v:=by
  intro i r j a h1 h2
  have h3:=flatten_get rows i j r a (fits_iff.1 hf) h1 h2
  have hlt:i*sz+j<xs.length:=by rw[<-hrep.1];exact(List.getElem?_eq_some_iff.1 h3).1
  exact⟨_,hcell _ _ (List.getElem?_eq_getElem hlt),hrep.2 _ _ _ h3 (List.getElem?_eq_getElem hlt)⟩
 refine .raw sz rows ⟨b,off,none⟩ cap rfl h8 hf hno hpu hcel (fun i r j a h1 h2=>?_) (fun i r j a v h1 h2 h3=>?_) h9 ⟨c,e,h6,h7⟩
 ·obtain⟨v,h,_⟩:=key i r j a h1 h2;exact⟨v,h⟩
 ·obtain⟨v',h,h'⟩:=key i r j a h1 h2
  rw[h]at h3;cases h3;exact h'
theorem act_raw{sz cap:Nat}{rows:List (List AV)}{c:Array Value}{e:TypeId}{xs:List Value}{st:Store}{bx:Boxes}(hI:Inv w G st)(hB:RepB w G β bx){cO:Nat->Nat}(hw:w'.heap=w.heap.push (.cells c e))(hos:w'.os=w.os)(hout:w'.output=w.output)
  (hf:fits sz rows=true)(hcel:∀r∈rows,AV.allCells r=true)(hno:∀r∈rows,AV.noOwnL r=true)(hpu:∀r∈rows,AV.allPure r=true)
  (hrep:RepC w G rows.flatten xs) (h7:cap*sz<=c.size) (h8:rows.length<=cap)
  (hx:∀(k:Nat) x,xs[k]?=some x->c[k]?=some x) :
  ∃G',Act1 w G β st bx cO w' G' β st bx (.val (.raw sz rows)) (.slice (some ⟨w.heap.size,0,none⟩) rows.length cap):=by
 refine⟨_,act_new hw hos hout (some 0) hI hB (rep_raw hf hcel hno hpu (hrep.push hw _ _) (heap_new hw) (by simpa using h7) h8 (by simp[Ghost.new]) fun k x hk=>by rw[Nat.zero_add];exact hx k x hk) fun b=>?_⟩
 simp only[cnt]
 split
 ·rename_i h;rw[if_pos h.symm];omega
 ·omega
theorem act_box{row:List AV}{c:Array Value}{e:TypeId}{st:Store}{bx:Boxes}(hI:Inv w G st)(hB:RepB w G β bx){cO:Nat->Nat}(hw:w'.heap=w.heap.push (.cells c e))(hos:w'.os=w.os)(hout:w'.output=w.output)
  {j:Nat}(hj:j<bx.length)(hrep:RepC w G row c.toList)(hcel:AV.allCells row=true)(hc:∀b,cntL b row c.toList<=cO b) :
  Act1 w G β st bx cO w' (G.new w.heap.size (some 0) []) (β.set j ⟨some w.heap.size,c.toList⟩) st (bx.set j row) (.fp j 0) (.pointer (some ⟨w.heap.size,0,none⟩)) where
 stp:=stp_new hw _ _
 inv:=inv_new hw _ hI
 box:=by
  have hB':=repB_new hw (some 0) [] hB
  refine⟨by simp[hB.len],fun i r g h1 h2=>?_⟩
  rw[List.getElem?_set]at h1 h2
  split at h1
  ·rename_i hij;subst hij
   rw[if_pos rfl,if_pos (by rw[hB.len];exact hj)]at h2
   cases h1;cases h2
   refine⟨hrep.push hw _ _,hcel,.inr ⟨w.heap.size,c,e,rfl,heap_new hw,by rw[hrep.1];simp,by simp[Ghost.new],fun k x hk=>cell_new hw (by simpa using hk)⟩⟩
  ·rw[if_neg (by assumption)]at h2
   exact hB'.box i r g h1 h2
 rep:=⟨_,_,by rw[List.getElem?_set,if_pos rfl,if_pos (by rw[hB.len];exact hj)],rfl,rfl⟩
 cnt:=fun b=>by
  have hjb:j<β.length:=by rw[hB.len];exact hj
  have hg:β[j]?=some β[j]:=List.getElem?_eq_getElem hjb
  have hr:bx[j]?=some bx[j]:=List.getElem?_eq_getElem hj
  have h1:=cntB_set b β bx j _ _ ⟨some w.heap.size,c.toList⟩ row hg hr
  have h2:=hc b
  simp only[cntE,Ghost.new,List.append_nil]
  simp only[Option.some.injEq]at h1
  by_cases hb:w.heap.size=b
  ·subst hb;simp only[if_true]at h1;rw[if_pos (Nat.le_refl _)];omega
  ·rw[if_neg hb]at h1;omega
 far:=fun b _ hb=>untouched_new hw _ _ hb
 size:=by rw[hw];simp
 os:=hos
 out:=hout
theorem q_alloc{t:TypeId}(ho:o.op=.alloc t){i:TypeInfo}{z:Value}(hi:P.info? t=some i)(hz:i.zero=some z) :
  (execOp ρ o).run P w=.ok (.value (.pointer (some ⟨w.heap.size,0,none⟩))) (w.alloc (.cells z.cells t)):=by
 simp[execOp,ho,Instr.alloc,zeroValue,typeInfo,hi,hz,newVar,newRow]
theorem q_box{t:TypeId}{x:Operand}(ho:o.op=.box t x) :
  (execOp ρ o).run P w=.ok (.value (.pointer (some ⟨w.heap.size,0,none⟩))) (w.alloc (.cells (ρ x).cells t)):=by
 simp[execOp,ho,Instr.box,newVar,newRow]
theorem cntL_zero{zero:List AV}(h:∀c∈zero,c.noOwn=true/\c.isPure=true)(b:Nat)(xs:List Value):cntL b zero xs=0:=
 cntL_noOwn b _ _ ((noOwnL_iff zero).2 fun c hc=>(h c hc).1)
theorem act_alloc{st:Store}{bx:Boxes}(hI:Inv w G st)(hB:RepB w G β bx){cO:Nat->Nat}{t:TypeId}{z:Value}{zero:List AV}(hrep:RepC w G zero z.cells.toList)(hn:∀c∈zero,c.noOwn=true/\c.isPure=true)(hc:AV.allCells zero=true) :
  ∃G',Act1 w G β st bx cO (w.alloc (.cells z.cells t)) G' β (st++[.rows 0 zero.length [zero]]) bx (.val (.ptr st.length 0 0 0)) (.pointer (some ⟨w.heap.size,0,none⟩)):=by
 obtain⟨G',_,h⟩:=act_rows (sz:=zero.length) (cap:=1) (rows:=[zero]) (c:=z.cells) (e:=t) (xs:=z.cells.toList) (w':=w.alloc (.cells z.cells t)) (cO:=cO) hI hB rfl rfl rfl (by simp[fits]) (by simpa using hc) (by simpa using hrep) (by omega)
  (by rw[hrep.1];simp) (by simp) (by simp) (fun b=>by simp only[List.flatten_cons,List.flatten_nil,List.append_nil];rw[cntL_zero hn];omega)
 exact⟨G',h⟩
theorem act_boxv{st:Store}{bx:Boxes}(hI:Inv w G st)(hB:RepB w G β bx){cO:Nat->Nat}{t:TypeId}{a:AV}{v:Value}{n:Nat}(hv:RepV w G a v)(hn:a.cells.length=n)(hc:AV.allCells a.cells=true)(hO:∀b,cnt b a v<=cO b) :
  ∃G',Act1 w G β st bx cO (w.alloc (.cells v.cells t)) G' β (st++[.rows 0 n [a.cells]]) bx (.val (.ptr st.length 0 0 0)) (.pointer (some ⟨w.heap.size,0,none⟩)):=by
 obtain⟨hr,hcn⟩:=hv.cells
 obtain⟨G',_,h⟩:=act_rows (sz:=n) (cap:=1) (rows:=[a.cells]) (c:=v.cells) (e:=t) (xs:=v.cells.toList) (w':=w.alloc (.cells v.cells t)) (cO:=cO) hI hB rfl rfl rfl (by simp[fits,hn]) (by simpa using hc) (by simpa using hr) (by omega)
  (by rw[<-hn,hr.1];simp) (by simp) (by simp) (fun b=>by simp only[List.flatten_cons,List.flatten_nil,List.append_nil];rw[hcn];exact hO b)
 exact⟨G',h⟩
theorem paste_flat{α:Type}{sz:Nat}:∀(rows:List (List α))(i:Nat)(r:List α),(∀r∈rows,r.length=sz)->r.length=sz->i<rows.length->(rows.set i r).flatten=paste rows.flatten (i*sz) r
 |[],_,_,_,_,h=>by simp at h
 |r0::rows,0,r,hf,hr,_=>by
  have h0:r0.length=sz:=hf r0 (by simp)
  have e:=paste_eq (r0++rows.flatten) 0 r (by simp;omega)
  simp only[List.set_cons_zero,List.flatten_cons,Nat.zero_mul]
  rw[e]
  simp[hr,<-h0]
 |r0::rows,i+1,r,hf,hr,h=>by
  have h0:r0.length=sz:=hf r0 (by simp)
  have hf':∀r∈rows,r.length=sz:=fun r hr=>hf r (by simp[hr])
  have ih:=paste_flat rows i r hf' hr (by simpa using h)
  have hlt:i<rows.length:=by simpa using h
  have hle:i*sz+r.length<=rows.flatten.length:=by
   rw[flatten_length rows hf',hr]
   calc i*sz+sz=(i+1)*sz:=by rw[Nat.succ_mul]
    _<=rows.length*sz:=Nat.mul_le_mul_right _ hlt
  have h1:(i+1)*sz=r0.length+i*sz:=by rw[h0,Nat.succ_mul];omega
  simp only[List.set_cons_succ,List.flatten_cons]
  rw[ih,h1,paste_eq (r0++rows.flatten) _ _ (by rw[List.length_append];omega),paste_eq _ _ _ hle,Nat.add_assoc,List.take_append,List.drop_append]
  simp[List.append_assoc,show r0.length+i*sz-r0.length=i*sz by omega,show r0.length+(i*sz+r.length)-r0.length=i*sz+r.length by omega,List.take_of_length_le,List.drop_of_length_le]
theorem fillRows_flat{sz:Nat}:∀(qs:List Nat)(vs:List AV)(rows rows':List (List AV)),(∀r∈rows,r.length=sz)->fillRows sz rows qs vs=some rows'->
  fillCells rows.flatten (qs.map fun i=>(i*sz,sz)) vs=some rows'.flatten/\(∀r∈rows',r.length=sz)/\rows'.length=rows.length
 |[],[],rows,rows',hf,h=>by simp[fillRows]at h;subst h;exact⟨rfl,hf,rfl⟩
 |[],_::_,_,_,_,h=>by simp[fillRows]at h
 |_::_,[],_,_,_,h=>by simp[fillRows]at h
 |i::qs,v::vs,rows,rows',hf,h=>by
  simp only[fillRows]at h
  split at h
  ·rename_i hc
   simp only[Bool.and_eq_true,decide_eq_true_eq]at hc
   have hf':∀r∈rows.set i v.cells,r.length=sz:=by
    intro r hr
    rcases List.mem_or_eq_of_mem_set hr with h|h
    ·exact hf r h
    ·rw[h];exact hc.1
   obtain⟨e1,e2,e3⟩:=fillRows_flat qs vs _ rows' hf' h
   refine⟨?_,e2,by simpa using e3⟩
   have hle:i*sz+sz<=rows.flatten.length:=by
    rw[flatten_length rows hf]
    calc i*sz+sz=(i+1)*sz:=by rw[Nat.succ_mul]
     _<=rows.length*sz:=Nat.mul_le_mul_right _ hc.2
   simp only[List.map_cons,fillCells]
   rw[if_pos (by simp only[hc.1,decide_true,Bool.true_and,decide_eq_true_eq];exact hle),<-paste_flat rows i v.cells hf hc.1 hc.2]
   exact e1
  ·cases h
theorem replicate_flat_get(sz n:Nat)(zero:List AV)(hz:zero.length=sz)(hsz:0<sz)(k:Nat)(hk:k<n*sz):(List.replicate n zero).flatten[k]?=zero[k % sz]?:=by
 have hi:k / sz<n:=Nat.div_lt_of_lt_mul (by rw[Nat.mul_comm];exact hk)
 have hj:k % sz<zero.length:=by rw[hz];exact Nat.mod_lt _ hsz
 have h:=flatten_get (sz:=sz) (List.replicate n zero) (k / sz) (k % sz) zero zero[k % sz] (fun r hr=>by rw[List.eq_of_mem_replicate hr,hz]) (by rw[List.getElem?_replicate,if_pos hi]) (List.getElem?_eq_getElem hj)
 rw[Nat.mul_comm,Nat.div_add_mod]at h
 rw[h,List.getElem?_eq_getElem hj]
theorem rep_zeros{sz n:Nat}{zero:List AV}{z:Array Value}(hrep:RepC w G zero z.toList)(hz:zero.length=sz)(hsz:0<sz) :
  RepC w G (List.replicate n zero).flatten (((Array.range (n*sz)).map (z[· % z.size]!)).toList):=by
 have hs:z.size=sz:=by rw[<-hz,hrep.1];simp
 refine⟨by rw[flatten_length (sz:=sz) _ (fun r hr=>by rw[List.eq_of_mem_replicate hr,hz])];simp,fun k c v h1 h2=>?_⟩
 have hk:k<n*sz:=by
  have:=(List.getElem?_eq_some_iff.1 h2).1;simpa using this
 rw[replicate_flat_get sz n zero hz hsz k hk]at h1
 have hm:k % sz<z.size:=by rw[hs];exact Nat.mod_lt _ hsz
 simp only[Array.toList_map,Array.toList_range,List.getElem?_map,List.getElem?_range hk,Option.map_some,Option.some.injEq,hs]at h2
 refine hrep.2 _ c v h1 ?_
 rw[<-h2,getElem!_pos z (k % sz) hm]
 simp[hm]
theorem q_lit{t e:TypeId}{n sz:Nat}{parts:Array (Nat×Operand)}(ho:o.op=.buildSlice t n parts)(hu:P.underlying t=some (.slice e))(hsz:cellsIs P e sz=true)(hsmall:n*sz<=16777216){zero:List AV}(hz:zeroIs P e zero=true)
  (hp0:0<sz)(hzl:zero.length=sz){qs:List Nat}(hq:parts.toList.map (·.1)=qs){vs:List AV}{rows:List (List AV)}(hfill:fillRows sz (List.replicate n zero) qs vs=some rows)(hn:0<n)(hv:RepC w G vs (parts.toList.map fun p=>ρ p.2)) :
  ∃cells,(execOp ρ o).run P w=.ok (.value (.slice (some ⟨w.heap.size,0,none⟩) rows.length n)) (w.alloc (.cells cells e))/\RepC w G rows.flatten cells.toList/\(∀b,cntL b rows.flatten cells.toList<=cntL b vs (parts.toList.map fun p=>ρ p.2))/\
   fits sz rows=true/\rows.length=n/\n*sz=cells.size:=by
 obtain⟨i,z,hi,hiz,hzr,hzn,_⟩:=zeroIs_ok hz w G
 obtain⟨i',hi',his,_⟩:=info_cells hsz
 rw[hi]at hi';cases hi'
 obtain⟨e1,e2,e3⟩:=fillRows_flat qs vs _ rows (fun r hr=>by rw[List.eq_of_mem_replicate hr,hzl]) hfill
 have hmap:(parts.map fun (x:Nat×Operand)=>(x.1,ρ x.2)).toList.map (·.2)=parts.toList.map fun p=>ρ p.2:=by simp[Function.comp_def]
 obtain⟨cells,f1,f2,f3⟩:=fill_ok (place:=fun i=>some (i*sz,sz)) (parts.map fun (x:Nat×Operand)=>(x.1,ρ x.2)).toList _ vs _ _ _ e1 (rep_zeros hzr hzl hp0) (by rw[hmap];exact hv) (by
  intro k p q h1 h2
  subst hq
  simp only[Array.toList_map,List.getElem?_map,Option.map_eq_some_iff,List.map_map]at h1 h2
  obtain⟨p',h1,rfl⟩:=h1
  obtain⟨p'',h2,rfl⟩:=h2
  rw[h1]at h2;cases h2
  rfl)
 have hrl:rows.length=n:=by rw[e3];simp
 have hnz:¬n*i.size=0:=by rw[his];have:=Nat.mul_pos hn hp0;omega
 have:=run_buildSlice w t e n (parts.map fun (x:Nat×Operand)=>(x.1,ρ x.2)) cells i z hu hi hiz (by rw[his];omega) hnz (by rw[his];exact f1)
 refine⟨cells,?_,f2,fun b=>?_,fits_iff.2 e2,hrl,?_⟩
 ·simp only[execOp,ho,Sem.run_bind,this,Result.andThen_ok,Sem.run_pure,hrl]
 ·have h1:=f3 b
  rw[hmap]at h1
  have h2:cntL b (List.replicate n zero).flatten ((Array.range (n*sz)).map (z.cells[· % z.cells.size]!)).toList=0:=by
   refine cntL_noOwn b _ _ ((noOwnL_iff _).2 fun c hc=>?_)
   obtain⟨r,hr,hc⟩:=List.mem_flatten.1 hc
   rw[List.eq_of_mem_replicate hr]at hc
   exact(hzn c hc).1
  omega
 ·have:=f2.1
  rw[flatten_length rows e2,hrl]at this
  simpa using this
theorem q_makeSl{t e:TypeId}{x y:Operand}(ho:o.op=.makeSlice t x y)(hu:P.underlying t=some (.slice e)){sz bytes:Nat}(hsz:cellsIs P e sz=true)(hby:bytesIs P e bytes=true){zero:List AV}(hz:zeroIs P e zero=true)(hp0:0<sz)(hzl:zero.length=sz)
  {n c:Int}(hx:ρ x=.int .i64 n)(hy:ρ y=.int .i64 c)(h0:0<=n)(h1:n<=c)(h2:c*bytes<=room)(h3:c<=9223372036854775807) :
  ∃cells,(execOp ρ o).run P w=.ok (.value (.slice (some ⟨w.heap.size,0,none⟩) n.toNat c.toNat)) (w.alloc (.cells cells e))/\cells.size=c.toNat*sz/\
   RepC w G (List.replicate n.toNat zero).flatten (cells.toList.take (n.toNat*sz))/\∀b xs,cntL b (List.replicate n.toNat zero).flatten xs=0:=by
 obtain⟨i,z,hi,hiz,hzr,hzn,_⟩:=zeroIs_ok hz w G
 obtain⟨i',hi',his,_⟩:=info_cells hsz
 rw[hi]at hi';cases hi'
 have hb:i.bytes=bytes:=by simpa [bytesIs,hi] using hby
 have:=run_make (P:=P) w t e i z hu hi hiz .i64 .i64 n c h0 h1 (by rw[hb,Int.mul_comm];simp only[room]at h2;omega) h3
 refine⟨madeCells z.cells (c.toNat*i.size),by simp only[execOp,ho,hx,hy,Sem.run_bind,this,Result.andThen_ok,Sem.run_pure],by rw[size_madeCells,his],?_,fun b xs=>?_⟩
 ·have hle:n.toNat*sz<=c.toNat*sz:=Nat.mul_le_mul_right _ (by omega)
  have h:=rep_zeros (w:=w) (G:=G) (n:=c.toNat) hzr hzl hp0
  have h':=h.take (n.toNat*sz)
  rw[his]
  unfold madeCells
  have e:(List.replicate c.toNat zero).flatten.take (n.toNat*sz)=(List.replicate n.toNat zero).flatten:=by
   have:c.toNat=n.toNat+(c.toNat-n.toNat):=by omega
   rw[this,<-List.replicate_append_replicate,List.flatten_append,List.take_left']
   exact flatten_length (sz:=sz) _ (fun r hr=>by rw[List.eq_of_mem_replicate hr,hzl]) |>.trans (by simp)
  rw[e]at h'
  exact h'
 ·refine cntL_noOwn b _ _ ((noOwnL_iff _).2 fun c hc=>?_)
  obtain⟨r,hr,hc⟩:=List.mem_flatten.1 hc
  rw[List.eq_of_mem_replicate hr]at hc
  exact(hzn c hc).1
theorem act_map{st:Store}{bx:Boxes}(hI:Inv w G st)(hB:RepB w G β bx){cO:Nat->Nat}:∃G',Act1 w G β st bx cO (w.alloc (.map #[] 0)) G' β (st++[.map []]) bx (.val (.map st.length)) (.map (some w.heap.size)):=by
 have hl:(G.new w.heap.size (some 0) [⟨some ⟨w.heap.size,0,none⟩,1,0,0,0,true,[]⟩]).ls[st.length]?=some ⟨some ⟨w.heap.size,0,none⟩,1,0,0,0,true,[]⟩:=by
  simp only[Ghost.new]
  rw[List.getElem?_append_right (by rw[hI.len];exact Nat.le_refl _),hI.len]
  simp
 refine⟨_,act_new_obj (loc:=⟨some ⟨w.heap.size,0,none⟩,1,0,0,0,true,[]⟩) (ao:=.map []) (w':=w.alloc (.map #[] 0)) (ob:=.map #[] 0) rfl rfl rfl hI hB ⟨rfl,rfl,w.heap.size,#[],0,rfl,heap_new rfl,by simp[Ghost.new],rfl,fun i k v e h=>by simp at h⟩ (.map _ _ _ hl rfl rfl) rfl fun b=>?_⟩
 simp only[cntO,Loc.blk]
 by_cases hb:b=w.heap.size
 ·subst hb;simp
 ·simp[hb];rw[if_neg fun h=>hb h.symm];omega
end Ax
namespace Ax
open Go
variable {P:Program}{w w':World}{G G':Ghost}{β β':List BxG}{ρ:Operand->Value}{o:Oper}
theorem flatten_inv{α:Type}{sz:Nat}:∀(rows:List (List α))(k:Nat)(c:α),(∀r∈rows,r.length=sz)->rows.flatten[k]?=some c->∃i j r,k=i*sz+j/\rows[i]?=some r/\r[j]?=some c
 |[],k,c,_,h=>by simp at h
 |r0::rows,k,c,hf,h=>by
  have h0:r0.length=sz:=hf r0 (by simp)
  simp only[List.flatten_cons]at h
  by_cases hk:k<r0.length
  ·rw[List.getElem?_append_left hk]at h
   exact⟨0,k,r0,by simp,rfl,h⟩
  ·rw[List.getElem?_append_right (by omega)]at h
   obtain⟨i,j,r,e1,e2,e3⟩:=flatten_inv rows _ c (fun r hr=>hf r (by simp[hr])) h
   exact⟨i+1,j,r,by rw[Nat.succ_mul];omega,by simpa using e2,e3⟩
theorem repC_flatten:∀(rows:List (List AV))(vals:List (List Value)),rows.length=vals.length->(∀(i:Nat) r xs,rows[i]?=some r->vals[i]?=some xs->RepC w G r xs)->RepC w G rows.flatten vals.flatten
 |[],[],_,_=>⟨rfl,fun i c v h=>by simp at h⟩
 |[],_::_,h,_=>by simp at h
 |_::_,[],h,_=>by simp at h
 |r::rows,x::vals,hl,h=>by
  obtain⟨a1,a2⟩:=h 0 r x rfl rfl
  obtain⟨b1,b2⟩:=repC_flatten rows vals (by simpa using hl) fun i r xs h1 h2=>h (i+1) r xs (by simpa using h1) (by simpa using h2)
  refine⟨by simp only[List.flatten_cons,List.length_append,a1,b1],fun i c v h1 h2=>?_⟩
  simp only[List.flatten_cons]at h1 h2
  by_cases hi:i<r.length
  ·rw[List.getElem?_append_left hi]at h1
   rw[List.getElem?_append_left (by omega)]at h2
   exact a2 i c v h1 h2
  ·rw[List.getElem?_append_right (by omega)]at h1
   rw[List.getElem?_append_right (by omega),<-a1]at h2
   exact b2 _ c v h1 h2
theorem cntL_flatten(b:Nat):∀(rows:List (List AV))(vals:List (List Value)),rows.length=vals.length->(∀(i:Nat) r xs,rows[i]?=some r->vals[i]?=some xs->r.length=xs.length)->cntL b rows.flatten vals.flatten=cntLL b rows vals
 |[],[],_,_=>rfl
 |[],_::_,h,_=>by simp at h
 |_::_,[],h,_=>by simp at h
 |r::rows,x::vals,hl,h=>by
  simp only[List.flatten_cons,cntLL]
  rw[cntL_append b r _ x _ (h 0 r x rfl rfl),cntL_flatten b rows vals (by simpa using hl) fun i r xs h1 h2=>h (i+1) r xs (by simpa using h1) (by simpa using h2)]
theorem RepC.append{as bs:List AV}{xs ys:List Value}(h:RepC w G as xs)(k:RepC w G bs ys):RepC w G (as++bs) (xs++ys):=by
 refine⟨by simp[h.1,k.1],fun i c v h1 h2=>?_⟩
 by_cases hi:i<as.length
 ·rw[List.getElem?_append_left hi]at h1
  rw[List.getElem?_append_left (by rw[<-h.1];exact hi)]at h2
  exact h.2 i c v h1 h2
 ·rw[List.getElem?_append_right (by omega)]at h1
  rw[List.getElem?_append_right (by rw[<-h.1];omega),<-h.1]at h2
  exact k.2 _ c v h1 h2
theorem lst_flat{sz:Nat}{rows:List (List AV)}{a:Addr}{n cap:Nat}(h:RepV w G (.lst sz rows) (.slice (some a) n cap)) :
  n=rows.length/\a.spot=none/\fits sz rows=true/\(∀r∈rows,AV.noOwnL r=true)/\(∀r∈rows,AV.allPure r=true)/\(∀r∈rows,AV.allCells r=true)/\
  ∃xs:List Value,RepC w G rows.flatten xs/\∀(k:Nat) x,xs[k]?=some x->w.cell? ⟨a.block,a.off+k,none⟩=some x:=by
 cases h with
 |lst _ _ _ _ hsp hcap hfit hno hpu hce hc hr=>
 refine⟨rfl,hsp,hfit,hno,hpu,hce,(List.range rows.flatten.length).map fun k=>(w.cell? ⟨a.block,a.off+k,none⟩).getD undef,⟨by simp,fun k c v h1 h2=>?_⟩,fun k x h=>?_⟩
 ·obtain⟨i,j,r,rfl,e2,e3⟩:=flatten_inv rows k c (fits_iff.1 hfit) h1
  obtain⟨_,y,hy⟩:=hc i r j c e2 e3
  have hk:=(List.getElem?_eq_some_iff.1 h1).1
  rw[List.getElem?_map,List.getElem?_range hk,Option.map_some,hy]at h2
  cases h2
  exact hr i r j c y e2 e3 hy
 ·have hk:k<rows.flatten.length:=by have:=(List.getElem?_eq_some_iff.1 h).1;simpa using this
  rw[List.getElem?_map,List.getElem?_range hk,Option.map_some]at h
  obtain⟨i,j,r,rfl,e2,e3⟩:=flatten_inv rows k _ (fits_iff.1 hfit) (List.getElem?_eq_getElem hk)
  obtain⟨_,y,hy⟩:=hc i r j _ e2 e3
  rw[hy]at h ⊢
  simpa using h
theorem isCell_view(a:AV):a.view.isCell=a.isCell:=by cases a<;>simp[AV.view,AV.isCell]
theorem allCells_viewL:∀(cs:List AV),AV.allCells (AV.viewL cs)=AV.allCells cs
 |[]=>rfl
 |c::cs=>by
  have:=allCells_viewL cs
  simp only[AV.allCells]at this
  simp only[AV.viewL,AV.allCells,List.all_cons,isCell_view,this]
theorem viewL_flatten:∀(rows:List (List AV)),(rows.map AV.viewL).flatten=AV.viewL rows.flatten
 |[]=>rfl
 |r::rows=>by
  have happ:∀a b:List AV,AV.viewL (a++b)=AV.viewL a++AV.viewL b:=by
   intro a b
   induction a with
   |nil=>rfl
   |cons x a ih=>simp only[List.cons_append,AV.viewL,ih]
  simp only[List.map_cons,List.flatten_cons,happ,viewL_flatten rows]
theorem str_cells(l:List UInt8):(bytesRows l).flatten=l.map fun b=>AV.int .u8 b.toNat:=by
 unfold bytesRows
 induction l with
 |nil=>rfl
 |cons b l ih=>simp only[List.map_cons,List.flatten_cons,ih];rfl
theorem brings_ok{st:Store}(hI:Inv w G st){a:AV}{v:Value}{rows:List (List AV)}(h:RepV w G a v)(hb:bringsOf st a=some rows){sz:Nat}(hf:fits sz rows=true){tx:TypeId}
  (hk:(∃e',P.underlying tx=some (.slice e'))\/P.underlying tx=some .string) :
  ∃xs,RepC w G rows.flatten xs/\Go.Src P sz tx v rows.length xs w/\(∀r∈rows,AV.allCells r=true)/\(∀r∈rows,AV.noOwnL r=true)/\((∀id ver,a≠.mu id ver)->∀r∈rows,AV.allPure r=true):=by
 have slice:∀(ad:Addr) (c:Nat) (xs:List Value),ad.spot=none->RepC w G rows.flatten xs->(∀(k:Nat) x,xs[k]?=some x->w.cell? ⟨ad.block,ad.off+k,none⟩=some x)->(∀r∈rows,AV.allCells r=true)->
   Go.Src P sz tx (.slice (some ad) rows.length c) rows.length xs w:=by
  intro ad c xs hsp hrep hx hcel
  have hl:xs.length=rows.length*sz:=by rw[<-hrep.1];exact flatten_length rows (fits_iff.1 hf)
  obtain⟨bl,of,sp⟩:=ad
  simp only at hsp hx
  subst hsp
  have hx':∀j u,xs[j]?=some u->w.cell? ((⟨bl,of,none⟩:Addr).add j)=some u:=fun j u h=>by rw[addr_add];exact hx j u h
  have hones:∀u∈xs,u.oneCell'=true:=hrep.ones (by
   simp only[AV.allCells,List.all_eq_true]
   intro c hc
   obtain⟨r,hr,hc⟩:=List.mem_flatten.1 hc
   have:=hcel r hr
   simp only[AV.allCells,List.all_eq_true]at this
   exact this c hc)
  exact⟨hk,fun _=>rfl,run_firstCells_some w sz rows.length ⟨bl,of,none⟩ rows.length c xs hl hx',run_firstCells_some w.drew sz rows.length ⟨bl,of,none⟩ rows.length c xs hl (by simpa using hx'),hl,hones⟩
 have lst:∀s,RepV w G (.lst s rows) v->∃xs,RepC w G rows.flatten xs/\Go.Src P sz tx v rows.length xs w/\(∀r∈rows,AV.allCells r=true)/\(∀r∈rows,AV.noOwnL r=true)/\((∀id ver,a≠.mu id ver)->∀r∈rows,AV.allPure r=true):=by
  intro s h
  have h0:∃a n c,v=.slice (some a) n c:=by cases h;exact⟨_,_,_,rfl⟩
  obtain⟨ad,n,c,rfl⟩:=h0
  obtain⟨e1,e2,e3,e4,e5,e6,xs,e7,e8⟩:=lst_flat h
  subst e1
  exact⟨xs,e7,slice ad c xs e2 e7 e8 e6,e6,e4,fun _=>e5⟩
 have none':rows=[]->∀c,v=.slice none 0 c->∃xs,RepC w G rows.flatten xs/\Go.Src P sz tx v rows.length xs w/\(∀r∈rows,AV.allCells r=true)/\(∀r∈rows,AV.noOwnL r=true)/\((∀id ver,a≠.mu id ver)->∀r∈rows,AV.allPure r=true):=by
  intro h0 c hv
  subst h0;subst hv
  exact⟨[],⟨rfl,fun i c v h=>by simp at h⟩,⟨hk,fun _=>rfl,run_firstCells_none w sz 0 0 c,run_firstCells_none w.drew sz 0 0 c,by simp,fun u hu=>by cases hu⟩,by simp,by simp,by simp⟩
 unfold bringsOf at hb
 split at hb
 ·rename_i l
  cases hb
  obtain⟨s,rfl,rfl⟩:=h.str_inv
  refine⟨byteCells s,?_,?_,?_,?_,?_⟩
  ·rw[str_cells]
   unfold byteCells
   refine⟨by simp,fun i c v h1 h2=>?_⟩
   simp only[List.getElem?_map,Option.map_eq_some_iff]at h1 h2
   obtain⟨b,h1,rfl⟩:=h1
   obtain⟨b',h2,rfl⟩:=h2
   rw[h1]at h2;cases h2
   exact .int _ _
  ·have hlen:(bytesRows s.data.toList).length=s.size:=by simp[bytesRows]
   rw[hlen]
   have one:∀u∈byteCells s,u.oneCell'=true:=fun u hu=>by
    obtain⟨_,_,rfl⟩:=List.mem_map.1 hu
    rfl
   by_cases hs:sz=1
   ·subst hs
    exact⟨hk,fun _=>rfl,firstCells_string s w,firstCells_string s w.drew,by rw[byteCells_length,Nat.mul_one],one⟩
   ·have h0:s.size=0:=by
     rcases Nat.eq_zero_or_pos s.size with h|h
     ·exact h
     ·have h2:s.data.toList≠[]:=by
       intro h3
       have:s.data.toList.length=s.size:=by simp
       rw[h3]at this;simp at this;omega
      obtain⟨b,l,hl⟩:=List.exists_cons_of_ne_nil h2
      rw[hl]at hf
      simp[fits,bytesRows]at hf
      exact absurd hf.1.symm hs
    have hc0:byteCells s=[]:=by
     apply List.eq_nil_of_length_eq_zero
     rw[byteCells_length,h0]
    have hfc:∀w',(Builtin.firstCells sz s.size (.string s)).run P w'=.ok (byteCells s).toArray w':=fun w'=>firstCells_string s w'
    exact⟨hk,fun _=>rfl,hfc w,hfc w.drew,by rw[hc0,h0,Nat.zero_mul];rfl,one⟩
  all_goals
   intros
   rename_i hr
   simp only[bytesRows,List.mem_map]at hr
   obtain⟨b,_,rfl⟩:=hr
   simp[AV.allCells,AV.isCell,AV.noOwnL,AV.noOwn,AV.allPure,AV.isPure]
 ·rename_i id ver
  split at hb
  ·rename_i rows' hr
   cases hb
   simp only[rowsOf]at hr
   split at hr
   ·rename_i v' s rows'' hst
    split at hr
    ·rename_i hv
     cases hr
     obtain⟨loc,hl,hmp,hlv,hra⟩:=hI.loc hst
     cases h with
     |mu _ _ _ loc' hp hl' hv' he=>
      rw[hl]at hl';cases hl'
      have hve:ver=loc.ver:=by omega
      have hval:=he hve
      rw[hra.len]at hval
      have hcel:∀r∈rows'.map AV.viewL,AV.allCells r=true:=fun r hr=>by
       obtain⟨r',hr',rfl⟩:=List.mem_map.1 hr
       rw[allCells_viewL];exact hra.cel r' hr'
      have hno:∀r∈rows'.map AV.viewL,AV.noOwnL r=true:=fun r hr=>by
       obtain⟨r',hr',rfl⟩:=List.mem_map.1 hr
       exact noOwn_viewL r'
      rcases hra.lies with⟨h0,hnil,_⟩|⟨b,off,c,e',hla',hcap,hheap,hle,hlen,htip,hcells⟩
      ·subst hnil
       simp only[List.length_nil]at hval
       cases hloc:loc.a with
       |none=>
        rw[hloc]at hval
        exact none' (by simp) _ hval
       |some ad=>
        refine⟨[],⟨rfl,fun i c v h=>by simp at h⟩,⟨hk,fun _=>by rw[hval];simp[Builtin.lenOf],?_,?_,by simp,by simp⟩,hcel,hno,fun h=>absurd rfl (h id ver)⟩
        all_goals
         rw[hval,hloc]
         simp[Builtin.firstCells,loadCells,loadCellsFrom]
      ·rw[hla']at hval
       subst hval
       have hrep:RepC w G (rows'.map AV.viewL).flatten loc.vals.flatten:=by
        rw[viewL_flatten]
        exact(repC_flatten rows' loc.vals hra.vlen.symm hra.reps).view
       have hfit':∀r∈loc.vals,r.length=s:=fun r hr=>by
        obtain⟨i,hi,rfl⟩:=List.mem_iff_getElem.1 hr
        have hi':i<rows'.length:=by rw[<-hra.vlen];exact hi
        rw[<-(hra.reps i rows'[i] loc.vals[i] (List.getElem?_eq_getElem hi') (List.getElem?_eq_getElem hi)).1]
        exact fits_iff.1 hra.fit _ (List.getElem_mem hi')
       have:=slice ⟨b,off,none⟩ loc.cap loc.vals.flatten rfl hrep (fun k x hx=>by
        obtain⟨i,j,r,rfl,e2,e3⟩:=flatten_inv loc.vals k x hfit' hx
        exact hcells i r j x e2 e3) hcel
       simp only[List.length_map]at this ⊢
       exact⟨_,hrep,this,hcel,hno,fun h=>absurd rfl (h id ver)⟩
    ·cases hr
   ·cases hr
  ·cases hb
 ·rename_i hn1 hn2
  unfold rowsOf at hb
  split at hb
  ·cases hb;cases h;exact none' rfl _ rfl
  ·cases hb;cases h
   rename_i ad
   refine⟨[],⟨rfl,fun i c v h=>by simp at h⟩,⟨hk,fun _=>rfl,?_,?_,by simp,by simp⟩,by simp,by simp,by simp⟩
   all_goals simp[Builtin.firstCells,loadCells,loadCellsFrom]
  ·cases hb;exact lst _ h
  ·cases hb;exact lst _ h.view
  ·rename_i id ver
   exact absurd rfl (hn2 id ver)
  ·cases hb
end Ax
namespace Ax
open Go
variable {P:Program}{w w':World}{G G':Ghost}{β β':List BxG}{ρ:Operand->Value}{o:Oper}
theorem run_storeCells_paste(g p:Nat)(t:TypeId)(vs:List Value)(cur:Array Value)(w:World)(hg:w.heap[g]?=some (.cells cur t (0,0)))(hl:p+vs.length<=cur.size)(h1:∀v∈vs,v.oneCell'=true) :
  (storeCells ⟨g,p,none⟩ vs).run P w=.ok () (w.setRow g (paste cur.toList p vs).toArray):=by
 have:=run_storeCells_at P g p t vs 0 cur w hg (by simpa using hl) h1
 rw[paste_eq _ _ _ (by simpa using hl)]
 simpa using this
structure Wr (w:World)(G:Ghost)(w':World)(G':Ghost)(b:Nat):Prop where
 size:w'.heap.size=w.heap.size
 heap:∀b',b'≠b->w'.heap[b']?=w.heap[b']?
 tipO:∀b',b'≠b->G'.tip b'=G.tip b'
 tip:∃p p',G.tip b=some p/\G'.tip b=some p'/\p<=p'/\∀o,o<p->w'.cell? ⟨b,o,none⟩=w.cell? ⟨b,o,none⟩
 ids:∀(id:Nat) loc,G.ls[id]?=some loc->∃loc',G'.ls[id]?=some loc'/\loc.ver<=loc'.ver/\(loc.ver=loc'.ver\/loc.mp=true->loc'.hd=loc.hd)
theorem Wr.stp{b:Nat}(h:Wr w G w' G' b):Stp w G w' G' where
 imm:=fun b' o hi=>by
  by_cases hb:b'=b
  ·subst hb
   obtain⟨p,p',h1,h2,h3,h4⟩:=h.tip
   have ho:=hi.2 p h1
   refine⟨h4 o ho,by rw[h.size];exact hi.1,fun q hq=>?_⟩
   rw[h2]at hq;cases hq;omega
  ·refine⟨cell_of_heap (h.heap b' hb),by rw[h.size];exact hi.1,fun p hp=>?_⟩
   rw[h.tipO b' hb]at hp
   exact hi.2 p hp
 ids:=h.ids
theorem Wr.untouched{b b':Nat}(h:Wr w G w' G' b)(hb:b'≠b):Untouched w G w' G' b':=⟨h.tipO b' hb,h.heap b' hb⟩
theorem ids_refl(G:Ghost):∀(id:Nat) loc,G.ls[id]?=some loc->∃loc',G.ls[id]?=some loc'/\loc.ver<=loc'.ver/\(loc.ver=loc'.ver\/loc.mp=true->loc'.hd=loc.hd):=fun _ loc h=>⟨loc,h,Nat.le_refl _,fun _=>rfl⟩
def Ghost.at(G:Ghost)(id:Nat)(loc:Loc):Ghost:=⟨G.ls.set id loc,G.tip⟩
theorem ids_at{id:Nat}{loc loc':Loc}(hl:G.ls[id]?=some loc)(hv:loc.ver<=loc'.ver)(hh:loc.ver=loc'.ver\/loc.mp=true->loc'.hd=loc.hd):∀(i:Nat) l,G.ls[i]?=some l->∃l',(G.at id loc').ls[i]?=some l'/\l.ver<=l'.ver/\(l.ver=l'.ver\/l.mp=true->l'.hd=l.hd):=by
 intro i l h
 by_cases hi:i=id
 ·subst hi
  rw[hl]at h;cases h
  exact⟨loc',by simp only[Ghost.at];rw[List.getElem?_set,if_pos rfl,if_pos (List.getElem?_eq_some_iff.1 hl).1],hv,hh⟩
 ·exact⟨l,by simp only[Ghost.at];rw[List.getElem?_set,if_neg (fun e=>hi e.symm)];exact h,Nat.le_refl _,fun _=>rfl⟩
theorem stp_at{id:Nat}{loc loc':Loc}(hl:G.ls[id]?=some loc)(hv:loc.ver<=loc'.ver)(hh:loc.ver=loc'.ver\/loc.mp=true->loc'.hd=loc.hd):Stp w G w (G.at id loc'):=
 ⟨fun _ _ h=>⟨rfl,h⟩,ids_at hl hv hh⟩
theorem inv_set{st:Store}(hI:Inv w G st)(hs:Stp w G w' G'){id:Nat}{loc':Loc}{ob':AObj}(hls:G'.ls=G.ls.set id loc')(hu:∀(i:Nat) l ob b,i≠id->G.ls[i]?=some l->st[i]?=some ob->0<cntO b l ob->Untouched w G w' G' b)
  (hnew:RepO w' G' ob' loc')(ht:∀b p,G'.tip b=some p->b<w'.heap.size):Inv w' G' (st.set id ob') where
 len:=by rw[hls];simp[hI.len]
 obj:=fun i ob loc h1 h2=>by
  rw[hls]at h2
  rw[List.getElem?_set]at h1 h2
  by_cases hi:id=i
  ·subst hi
   rw[if_pos rfl]at h1 h2
   split at h1
   ·split at h2
    ·cases h1;cases h2;exact hnew
    ·cases h2
   ·cases h1
  ·rw[if_neg hi]at h1 h2
   exact(hI.obj i ob loc h1 h2).stp hs fun b hb=>hu i loc ob b (fun e=>hi e.symm) h2 h1 hb
 tips:=ht
theorem inv_keep{st:Store}(hI:Inv w G st)(hs:Stp w G w' G')(hls:G'.ls=G.ls)(hu:∀b,0<cntS b G.ls st->Untouched w G w' G' b)(ht:∀b p,G'.tip b=some p->b<w'.heap.size):Inv w' G' st where
 len:=by rw[hls];exact hI.len
 obj:=fun i ob loc h1 h2=>by
  rw[hls]at h2
  refine(hI.obj i ob loc h1 h2).stp hs fun b hb=>hu b ?_
  have:=cntS_get b G.ls st i loc ob h2 h1
  omega
 tips:=ht
theorem repB_keep{bx:Boxes}(hB:RepB w G β bx)(hs:Stp w G w' G')(hu:∀b,0<cntB b β bx->Untouched w G w' G' b):RepB w' G' β bx where
 len:=hB.len
 box:=fun j row g h1 h2=>(hB.box j row g h1 h2).stp hs fun b hb=>hu b (by
  have:=cntB_get b β bx j g row h2 h1
  omega)
theorem Wr.tips{b:Nat}{st:Store}(h:Wr w G w' G' b)(hI:Inv w G st):∀b p,G'.tip b=some p->b<w'.heap.size:=by
 intro b' p hp
 rw[h.size]
 by_cases hb:b'=b
 ·subst hb
  obtain⟨q,q',h1,_⟩:=h.tip
  exact hI.tips _ _ h1
 ·rw[h.tipO b' hb]at hp
  exact hI.tips _ _ hp
theorem wr_row{b p p':Nat}{cur:Array Value}{e:TypeId}{q:Nat}{vs:List Value}{ls:List Loc}(hg:w.heap[b]?=some (.cells cur e (0,0)))(hl:q+vs.length<=cur.size)(ht:G.tip b=some p)(hpq:p<=q)(hpp:p<=p')
  (hids:∀(id:Nat) loc,G.ls[id]?=some loc->∃loc',ls[id]?=some loc'/\loc.ver<=loc'.ver/\(loc.ver=loc'.ver\/loc.mp=true->loc'.hd=loc.hd)) :
  Wr w G (w.setRow b (paste cur.toList q vs).toArray) ⟨ls,fun b'=>if b'=b then some p' else G.tip b'⟩ b where
 size:=setRow_size _ _ _
 heap:=fun b' hb=>setRow_other w b b' _ hb
 tipO:=fun b' hb=>by simp[hb]
 tip:=⟨p,p',ht,by simp,hpp,fun o ho=>by
  rw[cell_setRow_same w b o cur _ e (0,0) hg]
  have:w.cell? ⟨b,o,none⟩=cur[o]?:=by simp[World.cell?,hg]
  rw[this,List.getElem?_toArray,paste_get _ _ _ _ (by simpa using hl),if_neg (by omega)]
  simp⟩
 ids:=hids
theorem setRow_cell{b q k:Nat}{cur:Array Value}{e:TypeId}{vs:List Value}(hg:w.heap[b]?=some (.cells cur e (0,0)))(hl:q+vs.length<=cur.size) :
  (w.setRow b (paste cur.toList q vs).toArray).cell? ⟨b,k,none⟩=if q<=k/\k<q+vs.length then vs[k-q]? else w.cell? ⟨b,k,none⟩:=by
 rw[cell_setRow_same w b k cur _ e (0,0) hg]
 have:w.cell? ⟨b,k,none⟩=cur[k]?:=by simp[World.cell?,hg]
 rw[this,List.getElem?_toArray,paste_get _ _ _ _ (by simpa using hl)]
 simp
structure AppT (P:Program)(t tx e:TypeId)(sz bytes:Nat)(i:TypeInfo)(z:Value):Prop where
 ht:P.underlying t=some (.slice e)
 hi:P.info? e=some i
 hz:i.zero=some z
 hsz:i.size=sz
 hby:i.bytes=bytes
 hzs:z.cells.size=sz
 pos:0<sz
 posb:0<bytes
 kind:(∃e',P.underlying tx=some (.slice e'))\/P.underlying tx=some .string
theorem need_ok{n bytes:Nat}(h:n*bytes<=140737488355328)(hb:0<bytes):((n:Nat):Int)<=9223372036854775807:=by
 have:n<=n*bytes:=Nat.le_mul_of_pos_right n hb
 omega
theorem run_append_room_at{t tx ty e:TypeId}{sz bytes:Nat}{i:TypeInfo}{z:Value}(h:AppT P t tx e sz bytes i z)(b off sLen sCap:Nat)(cur:Array Value)(e0:TypeId)(hg:w.heap[b]?=some (.cells cur e0 (0,0)))(x:Value)(n:Nat)(news:List Value)(hs:Go.Src P sz tx x n news w)
  (hroom:sLen+n<=sCap)(hfit:off+sCap*sz<=cur.size) :
  (Builtin.append_ #[t,tx] ty #[.slice (some ⟨b,off,none⟩) sLen sCap,x]).run P w=.ok (.slice (some ⟨b,off,none⟩) (sLen+n) sCap) (w.setRow b (paste cur.toList (off+sLen*sz) news).toArray):=by
 have hle:off+sLen*sz+news.length<=cur.size:=by
  rw[hs.newsLen]
  have:(sLen+n)*sz<=sCap*sz:=Nat.mul_le_mul_right _ hroom
  rw[Nat.add_mul]at this
  omega
 have hst:=run_storeCells_paste (P:=P) b (off+sLen*sz) e0 news cur w hg hle hs.one
 have hc:=hs.cells
 have hsz:=h.hsz
 subst hsz
 rcases hs.kind with⟨e',hk⟩|hk<;>simp[Builtin.append_,run_underlying h.ht,run_underlying hk,Go.sizeOf,typeInfo,h.hi,hs.len,hroom,hc,Addr.add_lit,hst]
theorem run_append_new{t tx ty e:TypeId}{sz bytes:Nat}{i:TypeInfo}{z:Value}(h:AppT P t tx e sz bytes i z)(base:Option Addr)(sLen sCap:Nat)(olds:List Value)
  (hold:(Builtin.firstCells sz sLen (.slice base sLen sCap)).run P w.drew=.ok olds.toArray w.drew)(hol:olds.length=sLen*sz)(x:Value)(n:Nat)(news:List Value)(hs:Go.Src P sz tx x n news w)
  (hg:sCap<sLen+n) (hb:(sLen+n)*bytes<=140737488355328) :
  ∃cap c,(Builtin.append_ #[t,tx] ty #[.slice base sLen sCap,x]).run P w=.ok (.slice (some ⟨w.heap.size,0,none⟩) (sLen+n) cap) (w.drew.alloc (.cells c e))/\sLen+n<=cap/\cap*sz<=c.size/\
   ∀(k:Nat) v,(olds++news)[k]?=some v->c[k]?=some v:=by
 have hsz:=h.hsz
 subst hsz
 have hby:=h.hby
 subst hby
 refine⟨_,_,run_append_grow_src w t tx ty e i z h.ht h.hi h.hz base sLen sCap olds hold x n news hs hg (need_ok hb h.posb) (growslice_fits hg hb),grownCap_ge _ _ _ _,?_,fun k v hv=>?_⟩
 ·have h1:=grownCap_ge w (sLen+n) sCap e
  rw[Array.size_append,size_zeroCells,h.hzs]
  simp only[List.size_toArray,List.length_append,hol,hs.newsLen]
  rw[<-Nat.add_mul,<-Nat.add_mul]
  exact Nat.mul_le_mul_right _ (by omega)
 ·have hk:=(List.getElem?_eq_some_iff.1 hv).1
  rw[Array.getElem?_append,if_pos (by simpa using hk)]
  simpa using hv
theorem drew_cell(a:Addr):w.drew.cell? a=w.cell? a:=rfl
theorem RepC.allCells_flat{rows:List (List AV)}(h:∀r∈rows,AV.allCells r=true):AV.allCells rows.flatten=true:=by
 simp only[AV.allCells,List.all_eq_true]
 intro c hc
 obtain⟨r,hr,hc⟩:=List.mem_flatten.1 hc
 have:=h r hr
 simp only[AV.allCells,List.all_eq_true]at this
 exact this c hc
theorem fits_append{sz:Nat}{a b:List (List AV)}(h:fits sz a=true)(k:fits sz b=true):fits sz (a++b)=true:=by
 rw[fits_iff]at *
 intro r hr
 rcases List.mem_append.1 hr with h'|h'
 ·exact h r h'
 ·exact k r h'
theorem mem_app{a b:List (List AV)}{p:List AV->Prop}(h:∀r∈a,p r)(k:∀r∈b,p r):∀r∈a++b,p r:=by
 intro r hr
 rcases List.mem_append.1 hr with h'|h'
 ·exact h r h'
 ·exact k r h'
theorem q_append{t tx ty e:TypeId}{sz bytes:Nat}{i:TypeInfo}{z:Value}(h:AppT P t tx e sz bytes i z){st:Store}{bx:Boxes}(hI:Inv w G st)(hB:RepB w G β bx){cO:Nat->Nat}(hX:∀b,cO b+cntB b β bx+cntS b G.ls st<=1)
  {s x:AV}{vs vx:Value}(hs:RepV w G s vs)(hx:RepV w G x vx)(hcs:∀b,cnt b s vs<=cO b){wl lim:Nat}{st':Store}{bx':Boxes}{r:Ent}(ha:act0 wl lim (.append sz bytes) [.val s,.val x] st bx=some (r,st',bx')) :
  ∃v w' G',(Builtin.append_ #[t,tx] ty #[vs,vx]).run P w=.ok v w'/\Act1 w G β st bx cO w' G' β st' bx' r v:=by
 simp only[act0]at ha
 split at ha
 ·cases ha
 ·rename_i new hnew
  split at ha
  ·rename_i hfit
   have hnm:∀id ver,x≠.mu id ver:=by
    intro id ver hx;subst hx;simp[bringsOf,rowsOf]at hnew
   have hnew':bringsOf st x=some new:=by
    unfold bringsOf at hnew ⊢
    cases x<;>simp_all [rowsOf]
   obtain⟨news,hrep,hsrc,hcel,hno,hpu⟩:=brings_ok hI hx hnew' hfit h.kind
   have hpu:=hpu hnm
   have fresh:∀base,(Builtin.firstCells sz 0 (.slice base 0 0)).run P w.drew=.ok ([]:List Value).toArray w.drew->new≠[]->new.length*bytes<=room->
     ∃v w' G',(Builtin.append_ #[t,tx] ty #[.slice base 0 0,vx]).run P w=.ok v w'/\Act1 w G β st bx cO w' G' β st bx (.val (.own sz new)) v:=by
    intro base hf hne hr
    have hn:0<new.length:=List.length_pos_iff.2 hne
    obtain⟨cap,c,e1,e2,e3,e4⟩:=run_append_new (ty:=ty) h base 0 0 [] hf (by simp) vx new.length news hsrc (by omega) (by simpa [room] using hr)
    simp only[Nat.zero_add,List.nil_append]at e1 e2 e4
    obtain⟨G',hA⟩:=act_own (w':=w.drew.alloc (.cells c e)) (cO:=cO) hI hB rfl rfl rfl hfit hcel hno hpu hrep e3 e2 e4
    exact⟨_,_,G',e1,hA⟩
   split at ha
   ·split at ha
    ·rename_i hemp
     cases ha
     have h0:new=[]:=by simpa using hemp
     subst h0
     cases hs
     have hn:news=[]:=by
      have:=hrep.1;simp at this;exact List.eq_nil_of_length_eq_zero this.symm
     subst hn
     have:=run_append_nothing w t tx ty e i h.ht h.hi none 0 0 (Nat.le_refl _) vx (by rw[h.hsz];exact hsrc)
     exact⟨_,_,_,this,Act1.quiet hI hB (RepV.nilSl) fun b=>by simp[cntE,cnt]⟩
    ·rename_i hemp
     split at ha
     ·rename_i hr
      cases ha
      cases hs
      exact fresh none (run_firstCells_none _ _ _ _ _) (by simpa using hemp) hr
     ·cases ha
   ·split at ha
    ·rename_i hemp
     cases ha
     have h0:new=[]:=by simpa using hemp
     subst h0
     have hn:news=[]:=by
      have:=hrep.1;simp at this;exact List.eq_nil_of_length_eq_zero this.symm
     subst hn
     cases hs with
     |emp a=>
     have:=run_append_nothing w t tx ty e i h.ht h.hi (some a) 0 0 (Nat.le_refl _) vx (by rw[h.hsz];exact hsrc)
     exact⟨_,_,_,this,Act1.quiet hI hB (RepV.emp a) fun b=>by simp[cntE,cnt]⟩
    ·rename_i hemp
     split at ha
     ·rename_i hr
      cases ha
      cases hs with
      |emp a=>
      exact fresh (some a) (by simp[Builtin.firstCells,loadCells,loadCellsFrom]) (by simpa using hemp) hr
     ·cases ha
   ·rename_i sz' old
    split at ha
    ·rename_i hc
     simp only[Bool.and_eq_true,decide_eq_true_eq]at hc
     obtain⟨rfl,hr⟩:=hc
     cases ha
     have hv:=hs.view
     cases hs with
     |own _ _ a cap hsp hcap hfo hnoo hpuo hceo hc0 hr0 htip hblk=>
     simp only[AV.view]at hv
     obtain⟨_,_,_,_,_,_,olds,hro,hxo⟩:=lst_flat hv
     obtain⟨b,off,sp⟩:=a
     simp only at hsp htip hblk hxo
     subst hsp
     have hol:olds.length=old.length*sz':=by rw[<-hro.1];exact flatten_length old (fits_iff.1 hfo)
     have hnl:news.length=new.length*sz':=hsrc.newsLen
     have hall:=fits_append hfo hfit
     have hflat:(old++new).flatten=old.flatten++new.flatten:=List.flatten_append
     by_cases hroom:old.length+new.length<=cap
     ·obtain⟨c,e0,hg,hfitc⟩:=hblk
      have hle:off+old.length*sz'+news.length<=c.size:=by
       rw[hnl]
       have:(old.length+new.length)*sz'<=cap*sz':=Nat.mul_le_mul_right _ hroom
       rw[Nat.add_mul]at this
       omega
      have e1:=run_append_room_at (ty:=ty) h b off old.length cap c e0 hg vx new.length news hsrc hroom hfitc
      have hW:Wr w G (w.setRow b (paste c.toList (off+old.length*sz') news).toArray) ⟨G.ls,fun b'=>if b'=b then some (off+(old++new).length*sz') else G.tip b'⟩ b:=
       wr_row hg hle htip (Nat.le_refl _) (by rw[List.length_append,Nat.add_mul];omega) (ids_refl G)
      have hone:cO b=1/\cntB b β bx=0/\cntS b G.ls st=0:=by
       have h1:=hX b
       have h2:=hcs b
       simp only[cnt,if_true]at h2
       omega
      have hun:∀b',b'≠b->Untouched w G _ _ b':=fun b' hb=>hW.untouched hb
      refine⟨_,_,⟨G.ls,fun b'=>if b'=b then some (off+(old++new).length*sz') else G.tip b'⟩,e1,?_⟩
      have hrep':RepC (w.setRow b (paste c.toList (off+old.length*sz') news).toArray) ⟨G.ls,fun b'=>if b'=b then some (off+(old++new).length*sz') else G.tip b'⟩ (old++new).flatten (olds++news):=by
       rw[hflat]
       refine(hro.append hrep).mono hW.stp fun b' hb'=>?_
       rw[<-hflat,cntL_noOwn b' _ _ ((noOwnL_iff _).2 fun x hx=>?_)]at hb'
       ·omega
       ·obtain⟨r,hr,hx⟩:=List.mem_flatten.1 hx
        exact(noOwnL_iff r).1 (mem_app hnoo hno r hr) x hx
      have hheap:=setRow_heap w b c (paste c.toList (off+old.length*sz') news).toArray e0 (0,0) hg
      have hrv:=rep_own (cap:=cap) hall (mem_app hceo hcel) (mem_app hnoo hno) (mem_app hpuo hpu) hrep' hheap (by rw[List.size_toArray,paste_length];simpa using hfitc) (by simpa using hroom) (by simp) (fun k x hk=>by
       rw[List.getElem?_toArray,paste_get _ _ _ _ (by simpa using hle)]
       by_cases hk':k<olds.length
       ·rw[List.getElem?_append_left hk']at hk
        rw[if_neg (by omega)]
        have:=hxo k x hk
        simpa [World.cell?,hg] using this
       ·rw[List.getElem?_append_right (by omega)]at hk
        have hlt:=(List.getElem?_eq_some_iff.1 hk).1
        rw[if_pos (by omega)]
        rw[show off+k-(off+old.length*sz')=k-olds.length by omega]
        exact hk)
      refine⟨hW.stp,inv_keep hI hW.stp rfl (fun b' hb'=>hun b' ?_) (hW.tips hI),repB_keep hB hW.stp fun b' hb'=>hun b' ?_,by rw[<-List.length_append];exact hrv,fun b'=>?_,fun b' hb' _=>hun b' ?_,by simp,rfl,rfl⟩
      ·intro e;subst e;omega
      ·intro e;subst e;omega
      ·have h2:=hcs b'
       simp only[cnt]at h2
       simp only[cntE,cnt]
       omega
      ·intro e;subst e;omega
     ·have hr':(old.length+new.length)*bytes<=140737488355328:=hr
      have hf:(Builtin.firstCells sz' old.length (.slice (some ⟨b,off,none⟩) old.length cap)).run P w.drew=.ok olds.toArray w.drew:=
       run_firstCells_some w.drew sz' old.length ⟨b,off,none⟩ old.length cap olds hol (fun j v hj=>by rw[addr_add,drew_cell];exact hxo j v hj)
      obtain⟨cap',c,e1,e2,e3,e4⟩:=run_append_new (ty:=ty) h (some ⟨b,off,none⟩) old.length cap olds hf hol vx new.length news hsrc (by omega) hr'
      rw[<-List.length_append]at e1 e2
      obtain⟨G',hA⟩:=act_own (w':=w.drew.alloc (.cells c e)) (cO:=cO) hI hB rfl rfl rfl hall (mem_app hceo hcel) (mem_app hnoo hno) (mem_app hpuo hpu) (by rw[hflat];exact hro.append hrep) e3 e2 e4
      exact⟨_,_,G',e1,hA⟩
    ·cases ha
   ·cases ha
  ·cases ha
end Ax
