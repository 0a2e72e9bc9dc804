/- Part of a proof. -/
import Derived.Test.YtgblgbgjmgjfkaaGreatA1
import Derived.Laws.Tables
import Derived.Laws.Cells
import Derived.Laws.CopyRow
import Derived.Great.BuildSlice
import Derived.Laws.MakeOwn
import Derived.Carry
import Derived.Deep.Upon

open List renaming getElem?_eq_some_iff->aac,getElem?_take->aeq,getElem?_drop->agL,map_cons->aei,mapM_cons->anW,getElem?_map->aej,getElem?_eq_getElem->aas,getElem?_range->aiX,take_left'->ao4,all_eq_true->ac3,mem_of_mem_take->agM,mem_of_mem_drop->agN,eq_nil_of_length_eq_zero->ad8,set_cons_zero->aja,set_cons_succ->ajR,cons_append->aer,getElem?_append_left->acJ,append_nil->afe,getElem?_append_right->acP,flatten_cons->ae0,length_append->adV,length_cons->aeo,drop_drop->agO,getElem?_set->aek,flatten_nil->aoS,replicate->acp,eq_of_mem_replicate->aem,mem_flatten->ai2,flatten_append->alL,mem_map->ad7,getElem?_toArray->amW,size_toArray->aiK,mem_append->aed
open Option renaming map_eq_some_iff->aex,map_none->al7,map_some->afo
open Nat renaming add_mul->ajp,le_refl->acO,zero_mul->aoH,zero_add->aij,succ_mul->aiu,mul_le_mul_right->aez
open Bool renaming and_eq_true->Ee
open Array renaming toList_extract->alo,toList_map->aoa,getElem?_eq_some_iff->ael,getElem?_push->aoq,size_push->aof
namespace Ax
open Go
variable {P:Program}{w:World}{G:bD}{β:List qh}{ρ:Operand->Value}{o:Oper}
variable{c:Call}{x y:Operand}{k:IntKind}{vs C r zero:List AV}{v:AV}{t:TypeId}{agg:Bool}{fs:Array Field}
theorem rL(h:c.args.toList=[x,y]):c.args = #[x,y]:=by
 have:=congrArg List.toArray h;simpa using this
theorem aoD(z:o.op=.call c)(h:c.callee=.builtin .max)(g:c.args.toList=[x,y]){a b:Int}
  (H:bF w G (.int k a) (ρ x))(l:bF w G (.int k b) (ρ y)):(execOp ρ o).run P w=.ok (.value (.int k (if b > a then b else a))) w:=by
 simp only[execOp,z,resolve,h,cj,Sem.run_pure,dy,invoke,builtin,rL g];simp[Builtin.max_,Builtin.max2,H.iN,l.iN]
theorem aoE(z:o.op=.call c)(h:c.callee=.builtin .min)(g:c.args.toList=[x,y]){a b:Int}
  (H:bF w G (.int k a) (ρ x))(l:bF w G (.int k b) (ρ y)):(execOp ρ o).run P w=.ok (.value (.int k (if b<a then b else a))) w:=by
 simp only[execOp,z,resolve,h,cj,Sem.run_pure,dy,invoke,builtin,rL g];simp[Builtin.min_,Builtin.min2,H.iN,l.iN]
theorem Ds(z:o.op=.nilCheck x){a:Addr}(l:ρ x=.pointer (some a)):(execOp ρ o).run P w=.ok (.value (ρ x)) w:=by
 simp only[execOp,z,l];rfl
theorem W6{i:Nat}(z:o.op=.extract x i)(p:vs[i]?=some v)(H:bF w G (.eY vs) (ρ x)) :
  ∃u,(execOp ρ o).run P w=.ok (.value u) w/\bF w G v u/\∀b,iw b v u<=iw b (.eY vs) (ρ x):=by
 generalize l:ρ x=X at H;cases H with
 |eY _ U g M=>
  have h:i<vs.length:=(aac.1 p).1;have j:i<U.size:=by omega
  refine⟨U[i],?_,M i v U[i] p (by simp[j]),λb=>?_⟩;simp only[execOp,z,l];simp[Instr.extract,j];simp only[iw];exact AM b vs U.toList i v U[i] p (by simp[j])
theorem vJ{k n:Nat}(h:cut C k n=some r):r=(C.drop k).take n/\k+n<=C.length/\r.length=n:=by
 unfold cut at h;split at h;cases h;exact⟨rfl,by assumption,by simp;omega⟩;cases h
theorem Dt{b:Bool}(h:qO P t=some b)(w:World):(isAgg t).run P w=.ok b w:=by
 unfold qO at h;split at h;rename_i g;cases h;simp[isAgg,cn g];rename_i g;cases h;simp[isAgg,cn g];rename_i d H j g;cases h;cases d<;>simp_all [isAgg,cn g];cases h
theorem HZ(h:bH agg r=some v){X:List Value}(l:dg w G r X) :
  ∃u,(if agg then .agg X.toArray else X.headD undef)=u/\bF w G v u/\(∀b,iw b v u=cP b r X)/\(agg=false->∃c x,r=[c]/\X=[x]/\v=c/\u=x):=by
 refine⟨_,rfl,?_⟩;unfold bH at h;cases agg with
 |true=>
  simp only[bh,bw]at h;subst h;refine⟨.agg _ _ (by simpa using l.1) λi c v H p=>l.2 i c v H (by simpa using p),λb=>by simp[iw],by simp⟩
 |false=>
  simp only[Bool.false_eq_true,br]at h;split at h;rename_i c;cases h;match X,l with
  |[x],l=>exact⟨l.2 0 v x rfl rfl,λb=>by simp[cP],λ_=>⟨v,x,rfl,rfl,rfl,rfl⟩⟩|[],l=>simp[dg]at l|_::_::_,l=>simp[dg]at l
  cases h
theorem aeG(vs:Array Value)(off n:Nat):vs.extract off (off+n)=((vs.toList.drop off).take n).toArray:=by
 apply Array.ext';simp[alo,List.extract]
theorem aeH{f:Nat}(K:o.op=.field t x f){F:Field}(L:P.underlying t=some (.struct fs))(D:fs[f]?=some F){off n:Nat}
  (g:F.offset=off)(J:dA P F.type n=true)(X:qO P F.type=some agg)(B:cut C off n=some r)(N:bH agg r=some v)
  (k:bF w G (.agg C) (ρ x)):∃u,(execOp ρ o).run P w=.ok (.value u) w/\bF w G v u/\∀b,iw b v u<=iw b (.agg C) (ρ x):=by
 generalize O:ρ x=V at k;cases k with
 |agg _ vs l M=>
  obtain⟨rfl,I,m⟩:=vJ B;have s:dg w G C vs.toList:=⟨by simpa using l,λi c v H j=>M i c v H (by simpa using j)⟩;have z:=(s.drop off).take n;obtain⟨u,h,H,j,p⟩:=HZ N z;refine⟨u,?_,H,λb=>?_⟩;simp only[execOp,K,O];simp only[Instr.field,cj,cn L,dy,D,asAgg,Sem.run_pure,part,Dt X,g];cases agg with
  |true=>
   simp only[bh]at h;subst h;simp[fL J,aeG]
  |false=>
   obtain⟨c,y,T,q,U,E⟩:=p rfl;have Q:vs[off]?=some y:=by
    have:=congrArg (·[0]?) q;simp only[aeq,agL]at this;split at this;simpa using this;simp at this
   simp[Q,E]
  rw[j];simp only[iw];have R:=W5 b n (C.drop off) (vs.toList.drop off) (by simp;omega);have S:=BX b off C vs.toList (by simpa using l);omega
theorem MS{place:Nat->Option (Nat×Nat)}:∀(ps:List (Nat×Value))(Q:List (Nat×Nat))(vs:List AV)(zero C:List AV)(z:Array Value),kq zero Q vs=some C->dg w G zero z.toList->
  dg w G vs (ps.map (·.2))->(∀(i:Nat) p q,ps[i]?=some p->Q[i]?=some q->place p.1=some q)->
  ∃cells,Instr.fill place z ps=some cells/\dg w G C cells.toList/\∀b,cP b C cells.toList<=cP b zero z.toList+cP b vs (ps.map (·.2))
 |[],Q,vs,zero,C,z,h,k,g,r=>by
  cases vs with
  |nil=>
   cases Q with
   |nil=>simp[kq]at h;subst h;exact⟨z,rfl,k,λb=>by omega⟩|cons q Q=>simp[kq]at h
  |cons v vs=>simp[dg]at g
 |p::ps,Q,vs,zero,C,z,h,k,g,r=>by
  cases vs with
  |nil=>simp[dg]at g|cons v vs=>
   cases Q with
   |nil=>simp[kq]at h|cons q Q=>
    obtain⟨off,n⟩:=q;simp only[kq]at h;split at h;rename_i t;simp only[Ee,aA]at t;obtain⟨S,B⟩:=t;have M:=r 0 p (off,n) rfl rfl;have s:bF w G v p.2:=g.2 0 v p.2 rfl rfl;obtain⟨H,y⟩:=s.cells;have K:p.2.cells.size=n:=(by have:=H.1;simp at this;omega);have N:z.size=zero.length:=(by have:=k.1;simp at this;omega);have W:=Sz off p.2.cells.toList z (by simp;omega);have I:dg w G (ay zero off v.cells) (ay z.toList off p.2.cells.toList):=k.ay H (by omega);have D:dg w G vs (ps.map (·.2)):=⟨by have:=g.1;simpa using this,λi c x l m=>g.2 (i+1) c x (by simpa using l) (by simpa using m)⟩;have step:Instr.fill place z (p::ps)=Instr.fill place (p.2.cells.zipIdx.foldl (λC (c,j)=>C.setIfInBounds (off+j) c) z) ps:=by
     obtain⟨R,pv⟩:=p;simp only[Instr.fill];rw[M];simp only;rw[U (by simp at K ⊢;omega)]
    simp only[Array.toArray_toList]at W;obtain⟨cells,E,F,J⟩:=MS ps Q vs (ay zero off v.cells) C _ h (by rw[W];exact I) D (λi p q l m=>r (i+1) p q (by simpa using l) (by simpa using m));refine⟨cells,step.trans E,F,λb=>?_⟩;have L:=J b;rw[W]at L;have O:=vI b zero v.cells z.toList p.2.cells.toList off k.1 H.1 (by omega);have V:=y b;simp only[aei,cP];omega;cases h
theorem Gz{fs:Array Field}:∀{ps:List (Nat×Operand)}{Q:List (Nat×Nat)},vH P fs ps Q=true->ps.length=Q.length/\
  ∀(i:Nat) p q,ps[i]?=some p->Q[i]?=some q->∃f,fs[p.1]?=some f/\f.offset=q.1/\dA P f.type q.2=true
 |[],[],_=>⟨rfl,λi p q h _=>by simp at h⟩
 |(j,x)::ps,(off,n)::Q,h=>by
  simp only[vH,Ee]at h;obtain⟨H,m⟩:=h;obtain⟨E,k⟩:=Gz m;refine⟨by simp[E],λi p q g l=>?_⟩;cases i with
  |zero=>
   simp at g l;subst g;subst l;split at H;rename_i f r;simp only[Ee,cD]at H;exact⟨f,r,H.1,H.2⟩;cases H
  |succ i=>exact k i p q (by simpa using g) (by simpa using l)
 |[],_::_,h=>by simp[vH]at h|_::_,[],h=>by simp[vH]at h
theorem oK(h:rK P t zero=true)(w:World)(G:bD) :
  ∃i z,P.info? t=some i/\i.zero=some z/\dg w G zero z.cells.toList/\(∀c∈zero,c.de=true/\c.aH=true)/\AV.bC zero=true:=by
 unfold rK at h;split at h;rename_i i H;split at h;rename_i z g;simp only[Ee]at h;obtain⟨E,q,k⟩:=D1 w G h.1;exact⟨i,z,H,g,⟨E,q⟩,k,h.2⟩;cases h;cases h
theorem aeI{parts:Array (Nat×Operand)}(ho:o.op=.build t parts)(hu:P.underlying t=some (.struct fs)){is:List TypeInfo}(K:fs.toList.mapM (λf=>P.info? f.type)=some is)
  {Q:List (Nat×Nat)}(hz:rK P t zero=true)(hp:vH P fs parts.toList Q=true)(B:kq zero Q vs=some C)
  (hv:dg w G vs (parts.toList.map λp=>ρ p.2)):∃u,(execOp ρ o).run P w=.ok (.value u) w/\bF w G (.agg C) u/\∀b,iw b (.agg C) u<=cP b vs (parts.toList.map λp=>ρ p.2):=by
 obtain⟨i,z,hi,Z,N,J,_⟩:=oK hz w G;obtain⟨MU,E⟩:=Gz hp;have s:fs.toList.mapM (λf=>(P.info? f.type).map λi=>(f.offset,i.size))=some (List.zipWith (λf i=>(f.offset,i.size)) fs.toList is)/\fs.toList.length=is.length/\∀(k:Nat) f j,fs.toList[k]?=some f->is[k]?=some j->P.info? f.type=some j:=by
  generalize fs.toList=l at K;induction l generalizing is with
  |nil=>simp at K;subst K;exact⟨rfl,rfl,λk f j h _=>by simp at h⟩|cons f l ih=>
   rw[anW]at K;simp only[bind,Option.bind_eq_some_iff,pure,bw]at K;obtain⟨j,X,is',y,rfl⟩:=K;obtain⟨O,S,R⟩:=ih y;refine⟨?_,by simp[S],λk g j' H m=>?_⟩;rw[anW,O];simp[X];cases k with
   |zero=>simp at H m;subst H;subst m;exact X|succ k=>simp at H m;exact R k g j' H m
 obtain⟨hm,r,L⟩:=s;have M:(parts.map λ(x:Nat×Operand)=>(x.1,ρ x.2)).toList.map (·.2)=parts.toList.map λp=>ρ p.2:=by simp[Function.comp_def]
 obtain⟨cells,T,I,U⟩:=MS (place:=((List.zipWith (λ(f:Field) (i:TypeInfo)=>(f.offset,i.size)) fs.toList is).toArray[·]?)) (parts.map λ(x:Nat×Operand)=>(x.1,ρ x.2)).toList Q vs zero C z.cells B N
  (by rw[M];exact hv) (by
   intro k p q H m;simp only[aoa,aej,aex]at H;obtain⟨n,H,rfl⟩:=H;obtain⟨f,V,W,Y⟩:=E k n q H m;obtain⟨j,g4,g5,_⟩:=nW Y;have D:fs.toList[n.1]?=some f:=(by simpa using V);have X:is[n.1]?=some j:=by
    have F:n.1<is.length:=(by rw[<-r];exact(aac.1 D).1);have:=L n.1 f is[n.1] D (aas F);rw[g4]at this;cases this;exact aas F
   simp[List.getElem?_zipWith,D,X,W,g5])
 have hb:P.built t (parts.map λ(x:Nat×Operand)=>(x.1,ρ x.2)).toList=some cells:=by
  unfold Program.built;rw[hi,hu];simp only[Z,hm];exact T
 refine⟨.agg cells,?_,.agg _ _ (by simpa using I.1) λi c v H m=>I.2 i c v H (by simpa using m),λb=>?_⟩;simp only[execOp,ho,cj];have:=run_build w t (parts.map λ(x:Nat×Operand)=>(x.1,ρ x.2)) cells hb;simp only[this,dy,Sem.run_pure];have H:=U b;have m:cP b zero z.cells.toList=0:=eZ b _ _ ((dD zero).2 λc B=>(J c B).1);rw[M]at H;simp only[iw];omega
end Ax
namespace Ax
open Go
variable {P:Program}{w:World}{G:bD}{β:List qh}{ρ:Operand->Value}{o:Oper}
theorem nY(b off n:Nat):(⟨b,off,none⟩:Addr).add n=⟨b,off+n,none⟩:=by
 unfold Addr.add;split<;>simp_all
variable{t:TypeId}{fs:Array Field}{F:Field}{i:TypeInfo}{x:Operand}{a:Addr}{v:Value}{off n:Nat}{C:List AV}{agg:Bool}
theorem Pv{f:Nat}(k:P.underlying t=some (.struct fs))(g:fs[f]?=some F)(h:P.info? F.type=some i)(j:i.size≠0)(a:Addr)(w:World) :
  (Instr.fieldAt t (.pointer (some a)) f).run P w=.ok (.pointer (some (a.add F.offset))) w:=by
 have H:P.cellsOf F.type≠0:=by simp[Program.cellsOf,h,j]
 simp[Instr.fieldAt,cn k,g,Instr.sureAddr,fieldPlace,run_sizeOf w h,H]
theorem AO{f:Nat}(z:o.op=.fieldAddr t x f)(g:P.underlying t=some (.struct fs))(H:fs[f]?=some F)(h:P.info? F.type=some i)(j:i.size≠0)
  (l:ρ x=.pointer (some a)):(execOp ρ o).run P w=.ok (.value (.pointer (some (a.add F.offset)))) w:=by
 simp only[execOp,z,l,cj,Pv g H h j,dy,Sem.run_pure]
theorem C2{p:AV}{q:AV}(h:bF w G p v)
  (n:(∃id C i k,p=.ptr id C i k/\q=.ptr id C i (k+off))\/(∃sz rows i k,p=.tM sz rows i k/\q=.tM sz rows i (k+off))) :
  ∃a,v=.pointer (some a)/\bF w G q (.pointer (some (a.add off))):=by
 rcases n with⟨id,C,i,k,rfl,rfl⟩|⟨sz,rows,i,k,rfl,rfl⟩;cases h with
 |ptr _ _ _ _ _ loc m l s U=>
  obtain⟨a,rfl⟩:=m;refine⟨a,rfl,.ptr _ _ _ _ _ loc ⟨_,rfl⟩ l s λe=>?_⟩;obtain⟨g,H,j⟩:=U e;cases j;exact⟨g,H,by rw[nY];congr 3;omega⟩
 cases h with
 |tM _ _ _ _ a cap r=>
  refine⟨_,rfl,?_⟩;rw[nY];have:=bF.tM (w:=w) (G:=G) sz rows i (k+off) a cap r;rw[show a.off+(i*sz+k)+off=a.off+(i*sz+(k+off)) by omega];exact this
theorem GA{e:TypeId}{s:Nat}(g:P.underlying t=some (.slice e))(K:dA P e s=true){len cap:Nat}{i:Int}(r:0<=i)(h:i<len)(w:World) :
  (Instr.indexAt t (.slice (some a) len cap) (.int .i64 i)).run P w=.ok (.pointer (some (a.add (i.toNat*s)))) w:=by
 simp[Instr.indexAt,cn g,asIntOf,fL K,r,h]
theorem Pw{e:TypeId}{y:Operand}{sz:Nat}(D:o.op=.indexAddr t x y)(E:P.underlying t=some (.slice e))(K:dA P e sz=true){st:aj}(X:lN w G st){a:AV}{i:Int}{B L:bK}{S:aj}{r:fz}
  (h:bz 0 0 (.indexAddr sz) [.val a,.val (.int .i64 i)] st B=some (r,S,L))(j:bF w G a (ρ x))(I:ρ y=.int .i64 i) :
  S=st/\L=B/\∃p u,r=.val p/\(execOp ρ o).run P w=.ok (.value u) w/\bF w G p u/\p.de=true:=by
 have pure:∀(s:Nat) (rows:List (List AV)) (v:Value),bF w G (.dV s rows) v->ρ x=v->s=sz->0<=i->i<rows.length->
   ∃u,(execOp ρ o).run P w=.ok (.value u) w/\bF w G (.tM sz rows i.toNat 0) u:=by
  intro s rows v q k n l g;subst n;have Q:=q;cases q with
  |dV _ _ a cap O iA=>
   refine⟨_,?_,.tM _ rows i.toNat 0 a cap Q⟩;simp only[execOp,D,k,I,cj,GA E K l (by exact_mod_cast g),dy,Sem.run_pure];obtain⟨b,off,N⟩:=a;simp only at O;subst O;rw[nY];simp
 simp only[bz]at h;split at h<;>try (cases h;done)
 rename_i s rows;split at h;rename_i H;cases h;simp only[Ee,aA]at H;obtain⟨u,g,m⟩:=pure s rows _ j rfl H.1.1 H.1.2 H.2;exact⟨rfl,rfl,_,u,rfl,g,m,rfl⟩;cases h;rename_i s rows;split at h;rename_i H;cases h;simp only[Ee,aA]at H;obtain⟨u,g,m⟩:=pure s rows _ j.ai rfl H.1.1 H.1.2 H.2;exact⟨rfl,rfl,_,u,rfl,g,m,rfl⟩;cases h;rename_i id cW;split at h;rename_i v s rows iH;split at h;rename_i H;cases h;simp only[Ee,aA]at H;obtain⟨⟨⟨U,n⟩,l⟩,g⟩:=H;subst U;subst n;obtain⟨loc,z,V⟩:=X.loc iH;obtain⟨Fx,R,J⟩:=V;generalize k:ρ x=xv at j;cases j with
 |mu _ _ _ M hp W q Y=>
  rw[z]at W;cases W;have F:=Y R.symm;rcases J.tT with⟨_,th,_⟩|⟨b,off,c,e',T,iA,gK,Z,C,jW,fB⟩;subst th;simp at g;omega;rw[T,J.len]at F;refine⟨rfl,rfl,_,_,rfl,?_,.ptr id v i.toNat 0 _ loc ⟨_,rfl⟩ z (by omega) λ_=>⟨_,T,rfl⟩,rfl⟩;simp only[execOp,D,k,F,I,cj,GA E K l g,dy,Sem.run_pure];rw[nY,J.size];simp
 cases h;cases h
theorem aeK{y:Operand}(z:o.op=.index t x y)(g:P.underlying t=some .string){s:List UInt8}{i:Int}{b:UInt8}(r:0<=i)(l:s[i.toNat]?=some b)(H:bF w G (.str s) (ρ x))(k:ρ y=.int .i64 i) :
  (execOp ρ o).run P w=.ok (.value (.int .u8 b.toNat)) w:=by
 obtain⟨S,h,rfl⟩:=H.p5;have q:S[i.toNat]?=some b:=by
  have F:i.toNat<S.size:=by have:=(aac.1 l).1;simpa using this
  have m:S.data[i.toNat]?=some b:=by simpa using l
  have e:S[i.toNat]?=S.data[i.toNat]?:=rfl;rw[e];exact m
 simp only[execOp,z,h,k,cj];simp[Instr.index,cn g,asIntOf,r,q]
theorem Py{st:aj}(V:lN w G st){p:AV}(H:gm st p n=some C)(L:bF w G p v) :
  ∃b off xs,v=.pointer (some ⟨b,off,none⟩)/\xs.length=n/\dg w G C xs/\∀(j:Nat) x,xs[j]?=some x->w.cell? ⟨b,off+j,none⟩=some x:=by
 have build:∀(r:List AV) (k b off:Nat),cut r k n=some C->(∀(j:Nat) c,r[j]?=some c->∃x,w.cell? ⟨b,off+j,none⟩=some x/\bF w G c x)->
   ∃xs:List Value,xs.length=n/\dg w G C xs/\∀(j:Nat) x,xs[j]?=some x->w.cell? ⟨b,off+k+j,none⟩=some x:=by
  intro r k b off s Q;obtain⟨rfl,B,t⟩:=vJ s;refine⟨(List.range n).map λj=>(w.cell? ⟨b,off+k+j,none⟩).getD undef,by simp,⟨by simp;omega,λj c x l m=>?_⟩,λj x h=>?_⟩;rw[aeq]at l;split at l;rw[agL]at l;obtain⟨y,E,z⟩:=Q _ c l;simp only[aej,aex]at m;obtain⟨J,g,rfl⟩:=m;have:J=j:=by
   rw[aiX (by assumption)]at g;simpa using g.symm
  subst this;rw[show off+k+J=off+(k+J) by omega,E];exact z;cases l;simp only[aej,aex]at h;obtain⟨J,g,rfl⟩:=h;have Y:j<n:=by
   have:=(aac.1 g).1;simpa using this
  have:J=j:=by
   rw[aiX Y]at g;simpa using g.symm
  subst this;have N:k+J<r.length:=by omega
  obtain⟨y,E,z⟩:=Q (k+J) r[k+J] (aas N);rw[show off+k+J=off+(k+J) by omega,E]
  rfl
 unfold gm at H;split at H;rename_i id cW i k;split at H;rename_i ve sz rows iH;split at H;rename_i U;subst U;split at H;rename_i r q;obtain⟨loc,Z,Fx,R,I⟩:=V.loc iH;cases L with
 |ptr _ _ _ _ _ M hpp W hv X=>
  rw[Z]at W;cases W;obtain⟨a,T,rfl⟩:=X R.symm;rcases I.tT with⟨_,th,_⟩|⟨b,off,c,e',S,iA,gK,B,t,jW,O⟩;subst th;simp at q;rw[S]at T;cases T;obtain⟨xs,l,m,g⟩:=build r k b (off+i*sz) H (λj c s=>by
   obtain⟨x,E,z⟩:=I.cell O i r j c q s;exact⟨x,by rw[show off+i*sz+j=off+(i*sz+j) by omega];exact E,z⟩)
  refine⟨b,off+(i*sz+k),xs,by rw[I.size],l,m,λj x F=>?_⟩;rw[show off+(i*sz+k)+j=off+i*sz+k+j by omega];exact g j x F
 cases H;cases H;cases H;rename_i sz rows i k;split at H;rename_i r q;cases L with
 |tM _ _ _ _ a cap hs=>
  cases hs with
  |dV _ _ _ _ nU iA cm ee sK CZ s D=>
   obtain⟨xs,l,m,g⟩:=build r k a.block (a.off+i*sz) H (λj c K=>by
    obtain⟨_,x,E⟩:=s i r j c q K;exact⟨x,by rw[show a.off+i*sz+j=a.off+(i*sz+j) by omega];exact E,D i r j c x q K E⟩)
   refine⟨a.block,a.off+(i*sz+k),xs,rfl,l,m,λj x F=>?_⟩;rw[show a.off+(i*sz+k)+j=a.off+i*sz+k+j by omega];exact g j x F
 cases H;cases H
theorem IV(l:dA P t n=true)(g:qO P t=some agg){b:Nat}{X:List Value}(m:X.length=n)(N:agg=false->n=1)
  (H:∀(j:Nat) x,X[j]?=some x->w.cell? ⟨b,off+j,none⟩=some x) :
  (Instr.loadAt t (.pointer (some ⟨b,off,none⟩))).run P w=.ok (if agg then .agg X.toArray else X.headD undef) w:=by
 cases agg with
 |true=>
  have:=run_loadCells_list (P:=P) w ⟨b,off,none⟩ X (λj v h=>by rw[nY];exact H j v h);rw[m]at this;simp[Instr.loadAt,Instr.sureAddr,loadVar,Dt g,fL l,this]
 |false=>
  match X,m,N rfl with
  |[x],_,_=>
   have:=H 0 x rfl;simp only[Nat.add_zero]at this;simp[Instr.loadAt,Instr.sureAddr,loadVar,Dt g,this]
  |[],h,k=>simp at h;omega|_::_::_,h,k=>simp at h;omega
theorem dg.ai{as:List AV}{xs:List Value}(h:dg w G as xs):dg w G (AV.cC as) xs:=by
 refine⟨by rw[qN];exact h.1,λi c v H p=>?_⟩;rw[BR]at H;simp only[aex]at H;obtain⟨C,g,rfl⟩:=H;exact(h.2 i C v g p).ai
theorem MY(z:o.op=.load t x)(k:dA P t n=true)(X:qO P t=some agg)(N:agg=false->n=1){b:Nat}{xs:List Value}{v:AV}
  (q:ρ x=.pointer (some ⟨b,off,none⟩))(m:xs.length=n)(s:dg w G C xs)(g:∀(j:Nat) y,xs[j]?=some y->w.cell? ⟨b,off+j,none⟩=some y)(p:bH agg C=some v) :
  ∃u,(execOp ρ o).run P w=.ok (.value u) w/\bF w G v u/\∀d,iw d v u=cP d C xs:=by
 obtain⟨u,l,h,H,_⟩:=HZ p s;refine⟨u,?_,h,H⟩;simp only[execOp,z,q,cj,IV k X m N g,dy,Sem.run_pure,l]
theorem SB{f:FuncId}{first n:Array Operand}(g:f<100000)(z:o.op=.makeFunc (.func f) first n){vs:List AV}(p:dg w G vs ((first.toList++n.toList).map ρ)) :
  (execOp ρ o).run P w=.ok (.value (.func (.func f) (first.map ρ) (n.map ρ))) w/\
   bF w G (.fn f (AV.cC (vs.take first.size)) (AV.cC (vs.drop first.size))) (.func (.func f) (first.map ρ) (n.map ρ)):=by
 refine⟨by simp only[execOp,z,cj];rfl,?_⟩;have h:=(p.take first.size).ai;have H:=(p.drop first.size).ai;rw[List.map_append]at h H;rw[ao4 (by simp)]at h;rw[List.drop_left' (by simp)]at H;refine .fn f _ _ _ _ (by simpa using h.1) (by simpa using H.1) ⟨iV _,iV _,g⟩ (λi c v E q=>h.2 i c v E ?_) (λi c v E q=>H.2 i c v E ?_);simpa using q;simpa using q
end Ax
namespace Ax
open Go
variable {P:Program}{w:World}{G:bD}{β:List qh}{ρ:Operand->Value}{o:Oper}
def Du(ρ:Operand->Value)(x:Option Operand)(g a:Int):Prop:=(x=none/\a=g)\/∃y,x=some y/\ρ y=.int .i64 a
theorem qP{i:Int}{y:Nat}{c:BoundsCode}(r:0<=i)(h:i<=y)(w:World):(Instr.sliceBound (.int .i64 i) y c).run P w=.ok i.toNat w:=by
 simp[Instr.sliceBound,asIntOf,r,h]
theorem mY{AG:Bool}{len cap:Nat}{lo hi:Option Operand}{a b:Int}(l:Du ρ lo 0 a)(m:Du ρ hi len b)(r:0<=a)(H:a<=b)(g:b<=cap)(w:World) :
  (Instr.sliceBounds AG len cap (lo.map ρ) (hi.map ρ) none).run P w=.ok (a.toNat,b.toNat,cap) w:=by
 rcases l with⟨rfl,rfl⟩|⟨y,rfl,k⟩<;>rcases m with⟨rfl,rfl⟩|⟨z,rfl,j⟩
 simp[Instr.sliceBounds];simp[Instr.sliceBounds,j,qP (by omega:(0:Int)<=b) g];simp[Instr.sliceBounds,k,qP r H];have h:((b.toNat:Nat):Int)=b:=by omega
 simp[Instr.sliceBounds,k,j,qP (by omega:(0:Int)<=b) g,qP r (by rw[h];exact H)]
variable{t e:TypeId}{x:Operand}{h:Option Operand}{s:Nat}{rows:List (List AV)}{r:Option AV}{fs:List MapEntry}
theorem SF{L:Option Operand}(z:o.op=.slice t x L h none)(n:P.underlying t=some .string){s:List UInt8}{a b:Int}(p:bF w G (.str s) (ρ x))
  (k:Du ρ L 0 a)(l:Du ρ h s.length b)(r:0<=a)(g:a<=b)(H:b<=s.length) :
  ∃u,(execOp ρ o).run P w=.ok (.value u) w/\bF w G (.str ((s.take b.toNat).drop a.toNat)) u:=by
 obtain⟨S,j,rfl⟩:=p.p5;have m:S.data.toList.length=S.size:=by simp
 rw[m]at l H;refine⟨.string (S.extract a.toNat b.toNat),?_,.str _ _ ?_⟩;simp only[execOp,z,j,cj];simp[Instr.sliceAt,Instr.slice,cn n,mY k l r g H];rw[ByteArray.data_extract,alo];simp only[List.extract];rw[List.drop_take]
theorem W8(h:cr s rows=true)(n m:Nat):cr s ((rows.take n).drop m)=true:=by
 simp only[cr,ac3]at h ⊢;exact λr H=>h r (agM (agN H))
theorem UN{n m i:Nat}{r:List AV}(h:((rows.take n).drop m)[i]?=some r):rows[m+i]?=some r:=by
 rw[agL,aeq]at h;split at h;exact h;cases h
theorem aeL{a:Addr}{len cap:Nat}(h:bF w G (.dV s rows) (.slice (some a) len cap)){lo hi:Nat}(p:lo<=hi)(t:hi<=rows.length) :
  len=rows.length/\rows.length<=cap/\bF w G (.dV s ((rows.take hi).drop lo)) (.slice (if cap=lo then some a else some (a.add (lo*s))) (hi-lo) (cap-lo)):=by
 cases h with
 |dV _ _ _ _ O I J x S C l H=>
  refine⟨rfl,I,?_⟩;have m:((rows.take hi).drop lo).length=hi-lo:=by simp;omega
  have K:∀r∈(rows.take hi).drop lo,r∈rows:=λr H=>agM (agN H);have W:a.add (lo*s)=⟨a.block,a.off+lo*s,none⟩:=by
   obtain⟨b,off,N⟩:=a;simp only at O;subst O;exact nY _ _ _
  split;rename_i n;have:(rows.take hi).drop lo=[]:=by apply ad8;omega
  rw[this];have g:hi-lo=([]:List (List AV)).length:=by simp;omega
  rw[g];exact .dV _ _ a _ O (by simp) (by simp[cr]) (by simp) (by simp) (by simp) (λi r j c h _=>by simp at h) (λi r j c v h _=>by simp at h);rw[<-m];refine .dV _ _ _ _ (by rw[W]) (by omega) (W8 J _ _) (λr h=>x r (K r h)) (λr h=>S r (K r h)) (λr h=>C r (K r h)) (λi r j c E q=>?_) (λi r j c v E q k=>?_);have:=l _ r j c (UN E) q;rw[W];simp only;rw[show a.off+lo*s+(i*s+j)=a.off+((lo+i)*s+j) by rw[ajp];omega];exact this;rw[W]at k;simp only at k;rw[show a.off+lo*s+(i*s+j)=a.off+((lo+i)*s+j) by rw[ajp];omega]at k;exact H _ r j c v (UN E) q k
theorem IW{lo hi:Option Operand}(z:o.op=.slice t x lo hi none)(p:P.underlying t=some (.slice e))(K:dA P e s=true){a b:Int}(l:bF w G (.dV s rows) (ρ x))
  (H:Du ρ lo 0 a)(j:Du ρ hi rows.length b)(r:0<=a)(h:a<=b)(B:b<=rows.length) :
  ∃u,(execOp ρ o).run P w=.ok (.value u) w/\bF w G (.dV s ((rows.take b.toNat).drop a.toNat)) u:=by
 have q:=l;generalize v:ρ x=X at l;have n:∃g len cap,X=.slice (some g) len cap:=by cases l;exact⟨_,_,_,rfl⟩
 obtain⟨g,len,cap,rfl⟩:=n;obtain⟨E,y,k⟩:=aeL l (lo:=a.toNat) (hi:=b.toNat) (by omega) (by omega);subst E;refine⟨_,?_,k⟩;simp only[execOp,z,v,cj];simp only[Instr.sliceAt,cj,cn p,dy,Instr.slice,al7,mY H j r h (by omega:b<=(cap:Int)),fL K,Sem.run_pure];by_cases m:cap=a.toNat<;>simp[m]
theorem IX{l M:Option Operand}(r:o.op=.slice t x l h M)(m:P.underlying t=some (.slice e)){S:Nat}(K:dA P e S=true)(n:bF w G .aF (ρ x))
  (g:Du ρ l 0 0)(j:Du ρ h 0 0)(q:M=none\/∃z,M=some z/\h.isSome=true/\ρ z=.int .i64 0) :
  (execOp ρ o).run P w=.ok (.value (.slice none 0 0)) w:=by
 generalize v:ρ x=X at n;cases n;simp only[execOp,r,v,cj];rcases q with rfl|⟨z,rfl,k,p⟩;have Q:Du ρ h ((0:Nat):Int) 0:=j;simp only[Instr.sliceAt,cj,cn m,dy,Instr.slice,al7,mY (len:=0) (cap:=0) g Q (by omega) (by omega) (by simp),fL K,Sem.run_pure];simp;have key:(Instr.sliceBounds true 0 0 (l.map ρ) (h.map ρ) (some (ρ z))).run P w=.ok (0,0,0) w:=by
  rcases g with⟨rfl,_⟩|⟨y,rfl,s⟩<;>rcases j with⟨rfl,_⟩|⟨Y,rfl,H⟩
  simp at k;simp[Instr.sliceBounds,p,H,Instr.sliceBound,asIntOf];simp at k;simp[Instr.sliceBounds,p,s,H,Instr.sliceBound,asIntOf]
 simp only[Instr.sliceAt,cj,cn m,dy,Instr.slice,afo,key,fL K,Sem.run_pure];simp
theorem GC{l M:Option Operand}(s:o.op=.slice t x l h M)(n:P.underlying t=some (.slice e)){S:Nat}(K:dA P e S=true)(p:bF w G .oI (ρ x))
  (j:Du ρ l 0 0)(k:Du ρ h 0 0)(r:M=none\/∃z,M=some z/\h.isSome=true/\ρ z=.int .i64 0) :
  ∃u,(execOp ρ o).run P w=.ok (.value u) w/\bF w G .oI u:=by
 generalize v:ρ x=X at p;obtain⟨g,rfl⟩:∃g,X=.slice (some g) 0 0:=by cases p;exact⟨_,rfl⟩
 refine⟨_,?_,.oI g⟩;simp only[execOp,s,v,cj];rcases r with rfl|⟨z,rfl,m,q⟩;have Q:Du ρ h ((0:Nat):Int) 0:=k;simp only[Instr.sliceAt,cj,cn n,dy,Instr.slice,al7,mY (len:=0) (cap:=0) j Q (by omega) (by omega) (by simp),fL K,Sem.run_pure];simp;have key:(Instr.sliceBounds true 0 0 (l.map ρ) (h.map ρ) (some (ρ z))).run P w=.ok (0,0,0) w:=by
  rcases j with⟨rfl,_⟩|⟨y,rfl,B⟩<;>rcases k with⟨rfl,_⟩|⟨Y,rfl,H⟩
  simp at m;simp[Instr.sliceBounds,q,H,Instr.sliceBound,asIntOf];simp at m;simp[Instr.sliceBounds,q,B,H,Instr.sliceBound,asIntOf]
 simp only[Instr.sliceAt,cj,cn n,dy,Instr.slice,afo,key,fL K,Sem.run_pure];simp
theorem IY{z:Operand}{l:Option Operand}(p:o.op=.slice t x l h (some z))(r:P.underlying t=some (.slice e)){S:Nat}(K:dA P e S=true)(j:bF w G (.dV s rows) (ρ x))
  (m:Du ρ l 0 0)(n:Du ρ h rows.length 0)(M:h.isSome=true)(k:ρ z=.int .i64 0) :
  ∃u,(execOp ρ o).run P w=.ok (.value u) w/\bF w G .oI u:=by
 generalize v:ρ x=X at j;have q:∃g len cap,X=.slice (some g) len cap:=by cases j;exact⟨_,_,_,rfl⟩
 obtain⟨g,len,cap,rfl⟩:=q;refine⟨_,?_,.oI g⟩;have key:(Instr.sliceBounds true len cap (l.map ρ) (h.map ρ) (some (ρ z))).run P w=.ok (0,0,0) w:=by
  rcases m with⟨rfl,_⟩|⟨y,rfl,B⟩<;>rcases n with⟨rfl,_⟩|⟨Y,rfl,H⟩
  simp at M;simp[Instr.sliceBounds,k,H,Instr.sliceBound,asIntOf];simp at M;simp[Instr.sliceBounds,k,B,H,Instr.sliceBound,asIntOf]
 simp only[execOp,p,v,cj];simp only[Instr.sliceAt,cj,cn r,dy,Instr.slice,afo,key,fL K,Sem.run_pure];simp
theorem run_checkKey{kk:SK}(X:tg P t kk=true)(b:Bool)(n:Nat)(v:Value)(w:World):(Instr.checkKey b (n+1) t v).run P w=.ok () w:=by
 unfold tg at X;cases kk<;>simp only at X<;>split at X<;>(try cases X);all_goals (rename_i g;simp[Instr.checkKey,cn g])
def Dw(w:World)(G:bD)(E:List (AV×AV))(fs:List MapEntry):Prop:=
 fs.length=E.length/\∀(i:Nat) k v e,E[i]?=some (k,v)->fs[i]?=some e->bF w G k e.key/\bF w G v e.val/\v.de=true/\k.de=true
theorem Dw.tail{x:AV×AV}{E:List (AV×AV)}{f:MapEntry}(h:Dw w G (x::E) (f::fs)):Dw w G E fs:=
 ⟨by have:=h.1;simpa using this,λi k v e H g=>h.2 (i+1) k v e (by simpa using H) (by simpa using g)⟩
theorem yZ{d:TypeDesc}{kk:SK}(X:tg P t kk=true)(j:P.underlying t=some d){a b:AV}{x y:Value}{r:Bool}(h:K5 kk a b=some r)(H:bF w G a x)(g:bF w G b y):Instr.sameNow d x y=some r:=by
 unfold K5 at h;split at h;cases h;rw[H.l6,g.l6];simp only[tg,j]at X;split at X;rename_i m;cases m;rfl;cases X;split at h;rename_i k p l q n;cases h;subst n;rw[H.iN,g.iN];simp only[tg,j]at X;split at X;rename_i m;cases m;simp[Instr.sameNow];cases X;cases h;cases h;obtain⟨s,rfl,rfl⟩:=H.p5;obtain⟨S,rfl,rfl⟩:=g.p5;simp only[tg,j]at X;split at X;rename_i m;cases m;simp only[Instr.sameNow,bw];rw[beq_toListBytes,ByteArray.toList_eq,ByteArray.toList_eq];cases X;cases h
theorem y5{t:TypeId}{d:TypeDesc}{kk:SK}(X:tg P t kk=true)(g:P.underlying t=some d){k:AV}{x:Value}(H:bF w G k x):∀(E:List (AV×AV))(fs:List MapEntry)(i:Nat)(r:Option AV),
  Dw w G E fs->yd kk k E=some r->∃q,Instr.findNow d x fs i=some q/\
   (match r with
    |none=>q=none|some v=>∃j e,q=some (i+j,e.val)/\fs[j]?=some e/\bF w G v e.val/\v.de=true)
 |[],[],i,r,_,h=>by simp[yd]at h;subst h;exact⟨none,rfl,rfl⟩|[],_::_,_,_,h,_=>by simp[Dw]at h|_::_,[],_,_,h,_=>by simp[Dw]at h|(a,v)::E,f::fs,i,r,n,h=>by
  obtain⟨m,s,y,_⟩:=n.2 0 a v f rfl rfl;simp only[yd]at h;split at h;rename_i U;cases h;exact⟨some (i,f.val),by simp[Instr.findNow,yZ X g U H m],0,f,rfl,rfl,s,y⟩;rename_i U;obtain⟨q,p,l⟩:=y5 X g H E fs (i+1) r n.tail h;refine⟨q,by simp[Instr.findNow,yZ X g U H m,p],?_⟩;cases r with
  |none=>exact l|some z=>
   obtain⟨j,e,V,W,Y⟩:=l;exact⟨j+1,e,by rw[V,show i+1+j=i+(j+1) by omega],by simpa using W,Y⟩
  cases h
theorem run_findKey{kk:SK}(X:tg P t kk=true){k:AV}{x:Value}(m:bF w G k x){E:List (AV×AV)}(n:Dw w G E fs)(H:yd kk k E=some r)(w':World) :
  ∃q,(Instr.findKey t x fs).run P w'=.ok q w'/\
   (match r with
    |none=>q=none|some v=>∃j e,q=some (j,e.val)/\fs[j]?=some e/\bF w G v e.val/\v.de=true):=by
 have g:∃d,P.underlying t=some d:=by
  unfold tg at X;cases kk<;>simp only at X<;>split at X<;>(try cases X)<;>exact⟨_,by assumption⟩
 obtain⟨d,g⟩:=g;obtain⟨q,l,h⟩:=y5 X g m E fs 0 r n H;refine⟨q,by simp[Instr.findKey,cn g,l],?_⟩;cases r with
 |none=>exact h|some v=>obtain⟨j,e,V,W⟩:=h;exact⟨j,e,by simpa using V,W⟩
theorem ZK{R I:TypeId}{m k:Operand}{ok:Bool}(U:o.op=.lookup t m k ok)(W:P.underlying t=some (.map R I)){kk:SK}(X:tg P R kk=true){ie:TypeInfo}{z:Value}(N:P.info? I=some ie)(hz:ie.zero=some z){zero:AV}(UO:BU z zero=true)
  {st:aj}(hI:lN w G st){am S:AV}{B:List (AV×AV)}(mZ:(am=.gu/\B=[])\/∃id,am=.map id/\st[id]?=some (.map B))(hf:yd kk S B=some r)(D:bF w G am (ρ m))(hk:bF w G S (ρ k)) :
  ∃u,(execOp ρ o).run P w=.ok (.value u) w/\bF w G (if ok then .eY [r.getD zero,.bool r.isSome] else r.getD zero) u/\(r.getD zero).de=true:=by
 obtain⟨O,Q,_⟩:=Dr UO w G;have p:(zeroValue I).run P w=.ok z w:=by simp[zeroValue,typeInfo,N,hz]
 have two:∀(v:AV) (x:Value) (b:Bool),bF w G v x->bF w G (if ok then .eY [v,.bool b] else v) (if ok=true then Value.tuple #[x,.bool b] else x):=by
  intro v x b Z;cases ok;exact Z;refine .eY _ _ rfl λi c y H C=>?_;match i with
  |0=>simp at H C;subst H;subst C;exact Z|1=>simp at H C;subst H;subst C;exact .bool _|i+2=>simp at H
 have oJ:∀(fs:Array MapEntry),Dw w G B fs.toList->∃x b,bF w G (r.getD zero) x/\b=r.isSome/\(r.getD zero).de=true/\∃q,(Instr.findKey R (ρ k) fs.toList).run P w=.ok q w/\((∃j,q=some (j,x)/\b=true)\/(q=none/\x=z/\b=false)):=by
  intro fs hM;obtain⟨q,E,s⟩:=run_findKey X hk hM hf w;cases r with
  |none=>exact⟨z,false,O,rfl,Q,q,E,.inr ⟨s,rfl,rfl⟩⟩|some v=>
   obtain⟨j,e,T,g2,Y,J⟩:=s;exact⟨e.val,true,Y,rfl,J,q,E,.inl ⟨j,T,rfl⟩⟩
 rcases mZ with⟨rfl,rfl⟩|⟨id,rfl,iH⟩;generalize n:ρ m=mv at D;cases D;obtain⟨x,b,H,rfl,K,q,L,V⟩:=oJ #[] ⟨rfl,λi k v e h _=>by simp at h⟩;refine⟨_,?_,two _ _ _ H,K⟩;have g:=run_checkKey (w:=w) X (#[]:Array MapEntry).isEmpty 9999 (ρ k);simp only[execOp,U,n,cj];simp only[Instr.lookup,cj,cn W,dy,Sem.run_pure,g,L];rcases V with⟨j,rfl,l⟩|⟨rfl,rfl,l⟩;simp[l];simp[l,p];generalize n:ρ m=mv at D;obtain⟨loc,hl,Pq⟩:=hI.loc iH;cases D with
 |map _ loc' bk wQ Fx qH=>
  rw[hl]at wQ;cases wQ;obtain⟨T,g2,b0,F,clock,Y,J,g5,g6,g7⟩:=Pq;rw[qH]at Y;cases Y;obtain⟨x,b,H,rfl,K,q,L,V⟩:=oJ F ⟨by simpa using g6,λi k v e E s=>g7 i k v e E (by simpa using s)⟩;refine⟨_,?_,two _ _ _ H,K⟩;have g:=run_checkKey (w:=w) X F.isEmpty 9999 (ρ k);have M:(getObj bk).run P w=.ok (.map F clock) w:=by simp[getObj,Sem.run,J]
  simp only[execOp,U,n,cj];simp only[Instr.lookup,cj,cn W,dy,Sem.run_pure,M,g,L];rcases V with⟨j,rfl,l⟩|⟨rfl,rfl,l⟩;simp[l];simp[l,p]
end Ax
namespace Ax
open Go
variable {P:Program}{w w':World}{G G':bD}{β:List qh}
def nM.kC(l:nM):Option Nat:=if l.cap=0 then none else l.a.map (·.block)
def iC(b:Nat):List (List AV)->List (List Value)->Nat
 |r::rs,x::xs=>cP b r x+iC b rs xs|_,_=>0
def j8(b:Nat)(loc:nM):dJ->Nat
 |.rows _ _ rows=>(if loc.kC=some b then 1 else 0)+iC b rows loc.vals|.map _=>if loc.kC=some b then 1 else 0
def cV(b:Nat):List nM->List dJ->Nat
 |l::L,o::st=>j8 b l o+cV b L st|_,_=>0
def iJ(b:Nat):List qh->List (List AV)->Nat
 |g::β,r::bx=>(if g.kC=some b then 1 else 0)+cP b r g.vals+iJ b β bx|_,_=>0
theorem BY(b:Nat):∀(rs:List (List AV))(X:List (List Value))(i:Nat) r x,rs[i]?=some r->X[i]?=some x->cP b r x<=iC b rs X
 |[],_,_,_,_,h,_=>by simp at h|_::_,[],_,_,_,_,h=>by simp at h|r::rs,x::X,0,R,g,h,k=>by simp at h k;subst h;subst k;simp only[iC];omega|r::rs,x::X,i+1,R,g,h,k=>by
  have:=BY b rs X i R g (by simpa using h) (by simpa using k);simp only[iC];omega
theorem yl(b:Nat):∀(rs:List (List AV))(X:List (List Value))(i:Nat) r x R g,rs[i]?=some r->X[i]?=some x->
  iC b (rs.set i R) (X.set i g)+cP b r x=iC b rs X+cP b R g
 |[],_,_,_,_,_,_,h,_=>by simp at h|_::_,[],_,_,_,_,_,_,h=>by simp at h|r::rs,x::X,0,j,l,R,g,h,k=>by simp at h k;subst h;subst k;simp only[aja,iC];omega|r::rs,x::X,i+1,j,l,R,g,h,k=>by
  have:=yl b rs X i j l R g (by simpa using h) (by simpa using k);simp only[ajR,iC];omega
theorem GF(b:Nat):∀(rs:List (List AV))(X:List (List Value)),(∀r∈rs,AV.fJ r=true)->iC b rs X=0
 |[],_,_=>by simp[iC]|_::_,[],_=>by simp[iC]|r::rs,x::X,h=>by
  simp only[iC,eZ b r x (h r (by simp)),GF b rs X λR H=>h R (by simp[H])]
theorem qQ(b:Nat):∀(L:List nM)(st:List dJ)(i:Nat) l o,L[i]?=some l->st[i]?=some o->j8 b l o<=cV b L st
 |[],_,_,_,_,h,_=>by simp at h|_::_,[],_,_,_,_,h=>by simp at h|l::L,o::st,0,g,O,h,k=>by simp at h k;subst h;subst k;simp only[cV];omega|l::L,o::st,i+1,g,O,h,k=>by
  have:=qQ b L st i g O (by simpa using h) (by simpa using k);simp only[cV];omega
theorem Pz(b:Nat):∀(L:List nM)(st:List dJ)(i j:Nat) l o r s,i≠j->L[i]?=some l->st[i]?=some o->L[j]?=some r->st[j]?=some s->j8 b l o+j8 b r s<=cV b L st
 |[],_,_,_,_,_,_,_,_,h,_,_,_=>by simp at h|_::_,[],_,_,_,_,_,_,_,_,h,_,_=>by simp at h|l::L,o::st,0,0,_,_,_,_,h,_,_,_,_=>au rfl h|l::L,o::st,0,j+1,n,O,p,q,_,H,g,k,m=>by
  simp at H g;subst H;subst g;have:=qQ b L st j p q (by simpa using k) (by simpa using m);simp only[cV];omega
 |l::L,o::st,i+1,0,n,O,p,q,_,H,g,k,m=>by
  simp at k m;subst k;subst m;have:=qQ b L st i n O (by simpa using H) (by simpa using g);simp only[cV];omega
 |l::L,o::st,i+1,j+1,n,O,p,q,h,H,g,k,m=>by
  have:=Pz b L st i j n O p q (by omega) (by simpa using H) (by simpa using g) (by simpa using k) (by simpa using m);simp only[cV];omega
theorem AP(b:Nat):∀(L:List nM)(st:List dJ)(i:Nat) l o g O,L[i]?=some l->st[i]?=some o->
  cV b (L.set i g) (st.set i O)+j8 b l o=cV b L st+j8 b g O
 |[],_,_,_,_,_,_,h,_=>by simp at h|_::_,[],_,_,_,_,_,_,h=>by simp at h|l::L,o::st,0,j,m,p,q,h,k=>by simp at h k;subst h;subst k;simp only[aja,cV];omega|l::L,o::st,i+1,j,m,p,q,h,k=>by
  have:=AP b L st i j m p q (by simpa using h) (by simpa using k);simp only[ajR,cV];omega
theorem w6(b:Nat):∀(g L:List nM)(st s:List dJ),g.length=st.length->cV b (g++L) (st++s)=cV b g st+cV b L s
 |[],_,[],_,_=>by simp[cV]|[],_,_::_,_,h=>by simp at h|_::_,_,[],_,h=>by simp at h|l::g,L,o::st,s,h=>by
  simp only[aer,cV];rw[w6 b g L st s (by simpa using h)];omega
theorem qR(b:Nat):∀(β:List qh)(B:List (List AV))(i:Nat) g r,β[i]?=some g->B[i]?=some r->(if g.kC=some b then 1 else 0)+cP b r g.vals<=iJ b β B
 |[],_,_,_,_,h,_=>by simp at h|_::_,[],_,_,_,_,h=>by simp at h|g::β,r::B,0,j,R,h,k=>by simp at h k;subst h;subst k;simp only[iJ];omega|g::β,r::B,i+1,j,R,h,k=>by
  have:=qR b β B i j R (by simpa using h) (by simpa using k);simp only[iJ];omega
theorem D4(b:Nat):∀(β:List qh)(bx:List (List AV))(i:Nat) g r j R,β[i]?=some g->bx[i]?=some r->
  iJ b (β.set i j) (bx.set i R)+((if g.kC=some b then 1 else 0)+cP b r g.vals)=iJ b β bx+((if j.kC=some b then 1 else 0)+cP b R j.vals)
 |[],_,_,_,_,_,_,h,_=>by simp at h|_::_,[],_,_,_,_,_,_,h=>by simp at h|g::β,r::bx,0,V,l,W,m,h,k=>by simp at h k;subst h;subst k;simp only[aja,iJ];omega|g::β,r::bx,i+1,V,l,W,m,h,k=>by
  have:=D4 b β bx i V l W m (by simpa using h) (by simpa using k);simp only[ajR,iJ];omega
theorem PA(b:Nat):∀(β:List qh)(B:List (List AV))(i j:Nat) g r t R,i≠j->β[i]?=some g->B[i]?=some r->β[j]?=some t->B[j]?=some R->
  ((if g.kC=some b then 1 else 0)+cP b r g.vals)+((if t.kC=some b then 1 else 0)+cP b R t.vals)<=iJ b β B
 |[],_,_,_,_,_,_,_,_,h,_,_,_=>by simp at h|_::_,[],_,_,_,_,_,_,_,_,h,_,_=>by simp at h|l::L,o::st,0,0,_,_,_,_,h,_,_,_,_=>au rfl h|l::L,o::st,0,j+1,p,O,q,s,_,H,k,m,n=>by
  simp at H k;subst H;subst k;have:=qR b L st j q s (by simpa using m) (by simpa using n);simp only[iJ];omega
 |l::L,o::st,i+1,0,p,O,q,s,_,H,k,m,n=>by
  simp at m n;subst m;subst n;have:=qR b L st i p O (by simpa using H) (by simpa using k);simp only[iJ];omega
 |l::L,o::st,i+1,j+1,p,O,q,s,h,H,k,m,n=>by
  have:=PA b L st i j p O q s (by omega) (by simpa using H) (by simpa using k) (by simpa using m) (by simpa using n);simp only[iJ];omega
structure D5 (w:World)(G:bD)(aI:List AV)(g:qh):Prop where
 yb:dg w G aI g.vals
 HY:AV.bC aI=true
 tT:(g.kC=none/\aI=[])\/∃b c e,g.kC=some b/\w.heap[b]?=some (.cells c e (0,0))/\aI.length<=c.size/\G.oY b=some 0/\∀(k:Nat) x,g.vals[k]?=some x->w.cell? ⟨b,k,none⟩=some x
structure mD (w:World)(G:bD)(β:List qh)(bx:bK):Prop where
 len:β.length=bx.length
 box:∀(j:Nat) aI g,bx[j]?=some aI->β[j]?=some g->D5 w G aI g
def fM(w:World)(G:bD)(w':World)(G':bD)(b:Nat):Prop:=G'.oY b=G.oY b/\w'.heap[b]?=w.heap[b]?
theorem uJ{b o:Nat}(h:w'.heap[b]?=w.heap[b]?):w'.cell? ⟨b,o,none⟩=w.cell? ⟨b,o,none⟩:=by simp[World.cell?,h]
theorem D5.kV{j:List AV}{g:qh}(h:D5 w G j g)(hs:wZ w G w' G')(l:∀b,0<(if g.kC=some b then 1 else 0)+cP b j g.vals->fM w G w' G' b):D5 w' G' j g where
 yb:=h.yb.mono hs λb s=>l b (by omega)
 HY:=h.HY
 tT:=by
  rcases h.tT with h|⟨b,c,e,H,n,p,q,V⟩;exact .inl h;obtain⟨m,a2⟩:=l b (by simp[H];omega);exact .inr ⟨b,c,e,H,a2.trans n,p,m.trans q,λk x r=>(uJ a2).trans (V k x r)⟩
theorem tU.kV{O:dJ}{loc:nM}(h:tU w G O loc)(s:wZ w G w' G')(p:∀b,0<j8 b loc O->fM w G w' G' b):tU w' G' O loc:=by
 cases O with
 |rows K sz rows=>
  obtain⟨m,n,H⟩:=h;refine⟨m,n,H.yT,H.HY,H.len,H.size,H.xQ,λi r xs E q=>?_,?_⟩;refine(H.yh i r xs E q).mono s λb l=>p b ?_;have:=BY b rows loc.vals i r xs E q;simp only[j8];omega;rcases H.tT with h|⟨b,off,c,e,V,W,Y,J,t,y,B⟩;exact .inl h;obtain⟨g,S⟩:=p b (by
   have:loc.kC=some b:=by unfold nM.kC;rw[U (by omega),V];rfl
   simp[j8,this];omega)
  exact .inr ⟨b,off,c,e,V,W,S.trans Y,J,t,g.trans y,λi xs j x E q=>(uJ S).trans (B i xs j x E q)⟩
 |map L=>
  obtain⟨m,n,b,z,clock,H,C,D,F,I⟩:=h;obtain⟨g,S⟩:=p b (by
   have:loc.kC=some b:=by unfold nM.kC;rw[U (by omega),H];rfl
   simp[j8,this])
  refine⟨m,n,b,z,clock,H,S.trans C,g.trans D,F,λi k v e E q=>?_⟩;obtain⟨V,W,Y,J⟩:=I i k v e E q;exact⟨V.kV s λb l=>by rw[gw b k _ J]at l;omega,W.kV s λb l=>by rw[gw b v _ Y]at l;omega,Y,J⟩
theorem bF.held{a:AV}{v:Value}{b:Nat}(h:bF w G a v):0<iw b a v->b<w.heap.size:=by
 induction h with
 |agg C vs p h I=>
  intro l;simp only[iw]at l;have key:∀(C:List AV) (vs:List Value),0<cP b C vs->∃(i:Nat) (c:AV) (v:Value),C[i]?=some c/\vs[i]?=some v/\0<iw b c v:=by
   intro C;induction C with
   |nil=>intro vs h;rw[IT]at h;omega|cons c C I=>
    intro vs h;cases vs with
    |nil=>simp[cP]at h|cons v vs=>
     simp only[cP]at h;by_cases H:0<iw b c v;exact⟨0,c,v,rfl,rfl,H⟩;obtain⟨i,g,V,E,q,k⟩:=I vs (by omega);exact⟨i+1,g,V,by simpa using E,by simpa using q,k⟩
  obtain⟨i,c,v,E,q,k⟩:=key C vs.toList l;exact I i c v E (by simpa using q) k
 |eY C vs p h I=>
  intro l;simp only[iw]at l;have key:∀(C:List AV) (vs:List Value),0<cP b C vs->∃(i:Nat) (c:AV) (v:Value),C[i]?=some c/\vs[i]?=some v/\0<iw b c v:=by
   intro C;induction C with
   |nil=>intro vs h;rw[IT]at h;omega|cons c C I=>
    intro vs h;cases vs with
    |nil=>simp[cP]at h|cons v vs=>
     simp only[cP]at h;by_cases H:0<iw b c v;exact⟨0,c,v,rfl,rfl,H⟩;obtain⟨i,g,V,E,q,k⟩:=I vs (by omega);exact⟨i+1,g,V,by simpa using E,by simpa using q,k⟩
  obtain⟨i,c,v,E,q,k⟩:=key C vs.toList l;exact I i c v E (by simpa using q) k
 |ju sz rows a cap O N J x S m H r Z Y I=>
  intro l;simp only[iw]at l;split at l;rename_i e;obtain⟨c,n,j,_⟩:=Y;rw[<-e];exact(ael.1 j).1;omega
 |raw sz rows a cap O N J x S m H r Z Y I=>
  intro l;simp only[iw]at l;split at l;rename_i e;obtain⟨c,n,j,_⟩:=Y;rw[<-e];exact(ael.1 j).1;omega
 |_=>intro l;simp[iw]at l
theorem dg.held{as:List AV}{xs:List Value}{b:Nat}(h:dg w G as xs)(l:0<cP b as xs):b<w.heap.size:=by
 have:bF w G (.agg as) (.agg xs.toArray):=.agg _ _ (by simpa using h.1) λi c v E q=>h.2 i c v E (by simpa using q);exact this.held (by simpa [iw] using l)
theorem tU.held{O:dJ}{loc:nM}{b:Nat}(h:tU w G O loc)(l:0<j8 b loc O):b<w.heap.size:=by
 have kC:loc.kC=some b->b<w.heap.size:=by
  intro e;unfold nM.kC at e;split at e;cases e;rename_i N;cases O with
  |rows C sz rows=>
   obtain⟨_,_,j⟩:=h;rcases j.tT with⟨H,_⟩|⟨B,off,c,p,V,W,Y,_⟩;exact au H N;rw[V]at e;simp at e;subst e;exact(ael.1 Y).1
  |map g=>
   obtain⟨_,_,B,z,clock,j,m,_⟩:=h;rw[j]at e;simp at e;subst e;exact(ael.1 m).1
 cases O with
 |rows C sz rows=>
  simp only[j8]at l;split at l;exact kC (by assumption);obtain⟨_,_,j⟩:=h;have key:∀(rs:List (List AV)) (xs:List (List Value)),0<iC b rs xs->∃(i:Nat) (r:List AV) (x:List Value),rs[i]?=some r/\xs[i]?=some x/\0<cP b r x:=by
   intro rs;induction rs with
   |nil=>intro xs h;simp[iC]at h|cons r rs I=>
    intro xs h;cases xs with
    |nil=>simp[iC]at h|cons x xs=>
     simp only[iC]at h;by_cases n:0<cP b r x;exact⟨0,r,x,rfl,rfl,n⟩;obtain⟨i,R,X,E,q,k⟩:=I xs (by omega);exact⟨i+1,R,X,by simpa using E,by simpa using q,k⟩
  obtain⟨i,r,x,E,q,k⟩:=key rows loc.vals (by omega);exact(j.yh i r x E q).held k
 |map g=>
  simp only[j8]at l;split at l;exact kC (by assumption);omega
theorem lN.held{st:aj}{b:Nat}(h:lN w G st)(H:0<cV b G.ls st):b<w.heap.size:=by
 have key:∀(L:List nM) (st:List dJ),0<cV b L st->∃(i:Nat) (l:nM) (o:dJ),L[i]?=some l/\st[i]?=some o/\0<j8 b l o:=by
  intro L;induction L with
  |nil=>intro st h;simp[cV]at h|cons l L I=>
   intro st h;cases st with
   |nil=>simp[cV]at h|cons o st=>
    simp only[cV]at h;by_cases g:0<j8 b l o;exact⟨0,l,o,rfl,rfl,g⟩;obtain⟨i,j,O,E,q,k⟩:=I st (by omega);exact⟨i+1,j,O,by simpa using E,by simpa using q,k⟩
 obtain⟨i,l,o,E,q,k⟩:=key G.ls st H;exact(h.bO i o l q E).held k
theorem mD.held{B:bK}{b:Nat}(h:mD w G β B)(n:0<iJ b β B):b<w.heap.size:=by
 have key:∀(β:List qh) (B:bK),0<iJ b β B->∃(i:Nat) (g:qh) (r:List AV),β[i]?=some g/\B[i]?=some r/\0<(if g.kC=some b then 1 else 0)+cP b r g.vals:=by
  intro β;induction β with
  |nil=>intro st h;simp[iJ]at h|cons l t I=>
   intro st h;cases st with
   |nil=>simp[iJ]at h|cons o st=>
    simp only[iJ]at h;by_cases H:0<(if l.kC=some b then 1 else 0)+cP b o l.vals;exact⟨0,l,o,rfl,rfl,H⟩;obtain⟨i,L,O,E,q,k⟩:=I st (by omega);exact⟨i+1,L,O,by simpa using E,by simpa using q,k⟩
 obtain⟨i,g,r,E,q,k⟩:=key β B n;have j:=h.box i r g q E;by_cases H:0<cP b r g.vals;exact j.yb.held H;split at k;rename_i Y;rcases j.tT with⟨m,_⟩|⟨p,c,s,V,W,_⟩;rw[m]at Y;cases Y;rw[V]at Y;cases Y;exact(ael.1 W).1;omega
end Ax
namespace Ax
open Go
variable {P:Program}{w w':World}{G G':bD}{β jm:List qh}{ρ:Operand->Value}{o:Oper}
structure lC (w:World)(G:bD)(β:List qh)(st:aj)(bx:bK)(cO:Nat->Nat)(w':World)(G':bD)(jm:List qh)(st':aj)(iz:bK)(e:fz)(v:Value):Prop where
 kV:wZ w G w' G'
 inv:lN w' G' st'
 box:mD w' G' jm iz
 yb:mX w' G' jm e v
 iw:∀b,dz b e v+iJ b jm iz+cV b G'.ls st'<=cO b+iJ b β bx+cV b G.ls st+(if w.heap.size<=b then 1 else 0)
 AQ:∀b,cO b+iJ b β bx+cV b G.ls st=0->b<w.heap.size->fM w G w' G' b
 size:w.heap.size<=w'.heap.size
 os:w'.os=w.os
 out:w'.output=w.output
variable{st:aj}{bx:bK}{v:Value}{O:Obj}{b sz:Nat}{a:AV}{rows:List (List AV)}
theorem lC.qw{cO:Nat->Nat}{e:fz}(g:lN w G st)(j:mD w G β bx)(hr:mX w G β e v)(hc:∀b,dz b e v<=cO b):lC w G β st bx cO w G β st bx e v where
 kV:=wZ.refl w G
 inv:=g
 box:=j
 yb:=hr
 iw:=λb=>by have:=hc b;omega
 AQ:=λ_ _ _=>⟨rfl,rfl⟩
 size:=acO _
 os:=rfl
 out:=rfl
def bD.new(G:bD)(n:Nat)(x:Option Nat)(l:List nM):bD:=⟨G.ls++l,λb=>if b=n then x else G.oY b⟩
theorem Xa(H:w'.heap=w.heap.push O){o:Nat}(l:b<w.heap.size):w'.cell? ⟨b,o,none⟩=w.cell? ⟨b,o,none⟩:=by
 refine uJ ?_;rw[H,aoq,U (by omega)]
theorem w7(H:w'.heap=w.heap.push O)(x:Option Nat)(l:List nM):wZ w G w' (G.new w.heap.size x l) where
 ZD:=λb o hi=>by
  refine⟨Xa H hi.1,by rw[H];simp;have:=hi.1;omega,λp j=>?_⟩;have:¬b=w.heap.size:=by have:=hi.1;omega
  simp only[bD.new,U this]at j;exact hi.2 p j
 fP:=λid loc hl=>by
  refine⟨loc,?_,acO _,λ_=>rfl⟩;simp only[bD.new];rw[acJ (aac.1 hl).1];exact hl
theorem jx(H:w'.heap=w.heap.push O)(x:Option Nat)(l:List nM)(h:b<w.heap.size):fM w G w' (G.new w.heap.size x l) b:=by
 refine⟨by simp only[bD.new];rw[U (by omega)],?_⟩;rw[H,aoq,U (by omega)]
theorem bF.push(H:w'.heap=w.heap.push O)(x:Option Nat)(l:List nM)(h:bF w G a v):bF w' (G.new w.heap.size x l) a v:=
 h.kV (w7 H x l) λ_ g=>jx H x l (h.held g)
theorem dg.push{O:Obj}(H:w'.heap=w.heap.push O)(x:Option Nat)(l:List nM){as:List AV}{xs:List Value}(h:dg w G as xs):dg w' (G.new w.heap.size x l) as xs:=
 ⟨h.1,λi c v E q=>(h.2 i c v E q).push H x l⟩
theorem UP(H:w'.heap=w.heap.push O)(x:Option Nat)(g:lN w G st):lN w' (G.new w.heap.size x []) st where
 len:=by simp[bD.new,g.len]
 bO:=λid l loc m k=>by
  simp only[bD.new,afe]at k;have h:=g.bO id l loc m k;exact h.kV (w7 H x []) λb n=>jx H x [] (h.held n)
 qi:=λb p j=>by
  simp only[bD.new]at j;rw[H];simp only[aof];split at j;omega;have:=g.qi b p j;omega
theorem PC(m:w'.heap=w.heap.push O)(x:Option Nat)(j:lN w G st){loc:nM}{ao:dJ}(h:tU w' (G.new w.heap.size x [loc]) ao loc):lN w' (G.new w.heap.size x [loc]) (st++[ao]) where
 len:=by simp[bD.new,j.len]
 bO:=λid q l g H=>by
  simp only[bD.new]at H;by_cases n:id<st.length;rw[acJ n]at g;rw[acJ (by rw[j.len];exact n)]at H;have h:=j.bO id q l g H;exact h.kV (w7 m x [loc]) λb s=>jx m x [loc] (h.held s);rw[acP (by omega)]at g;rw[acP (by rw[j.len];omega)]at H;rw[j.len]at H;have r:id-st.length=0:=by
   have:=(aac.1 g).1;simp at this;omega
  rw[r]at g H;simp at g H;subst g;subst H;exact h
 qi:=λb p k=>by
  simp only[bD.new]at k;rw[m];simp only[aof];split at k;omega;have:=j.qi b p k;omega
theorem IZ(p:w'.heap=w.heap.push O)(x:Option Nat)(l:List nM)(H:mD w G β bx):mD w' (G.new w.heap.size x l) β bx where
 len:=H.len
 box:=λj k g m n=>by
  have h:=H.box j k g m n;refine h.kV (w7 p x l) λb q=>jx p x l (H.held (b:=b) ?_);have:=qR b β bx j g k n m;omega
theorem H6(H:w'.heap=w.heap.push O)(s:w'.os=w.os)(C:w'.output=w.output)(x:Option Nat)(g:lN w G st)(j:mD w G β bx){cO:Nat->Nat}
  (hr:bF w' (G.new w.heap.size x []) a v)(hc:∀b,iw b a v<=if b=w.heap.size then 1 else 0):lC w G β st bx cO w' (G.new w.heap.size x []) β st bx (.val a) v where
 kV:=w7 H x []
 inv:=UP H x g
 box:=IZ H x [] j
 yb:=hr
 iw:=λb=>by
  have:=hc b;simp only[dz,bD.new,afe];split at this;rename_i e;subst e;simp;omega;omega
 AQ:=λb _ l=>jx H x [] l
 size:=by rw[H];simp
 os:=s
 out:=C
theorem w8{ob:Obj}(H:w'.heap=w.heap.push ob)(s:w'.os=w.os)(C:w'.output=w.output)(g:lN w G st)(k:mD w G β bx){cO:Nat->Nat}{loc:nM}{ao:dJ}
  (h:tU w' (G.new w.heap.size (some 0) [loc]) ao loc)(hr:bF w' (G.new w.heap.size (some 0) [loc]) a v)(hn:a.de=true)(hc:∀b,j8 b loc ao<=(if b=w.heap.size then 1 else 0)+cO b) :
  lC w G β st bx cO w' (G.new w.heap.size (some 0) [loc]) β (st++[ao]) bx (.val a) v where
 kV:=w7 H _ _
 inv:=PC H _ g h
 box:=IZ H _ _ k
 yb:=hr
 iw:=λb=>by
  have j:=hc b;simp only[dz,bD.new,gw b a v hn];rw[w6 b _ _ _ _ g.len];simp only[cV];split at j;rename_i e;subst e;simp;omega;omega
 AQ:=λb _ l=>jx H _ _ l
 size:=by rw[H];simp
 os:=s
 out:=C
theorem w9{sz:Nat}{n:Type}:∀(rows:List (List n))(i j:Nat) r c,(∀r∈rows,r.length=sz)->rows[i]?=some r->r[j]?=some c->rows.flatten[i*sz+j]?=some c
 |[],_,_,_,_,_,h,_=>by simp at h|r0::rows,0,j,r,c,k,H,g=>by
  simp at H;subst H;simp only[ae0,aoH,aij];rw[acJ (aac.1 g).1];exact g
 |r0::rows,i+1,j,r,c,k,H,g=>by
  have I:=w9 rows i j r c (λr m=>k r (by simp[m])) (by simpa using H) g;have l:r0.length=sz:=k r0 (by simp);simp only[ae0];rw[acP (by rw[l,aiu];omega),l];rw[show (i+1)*sz+j-sz=i*sz+j by rw[aiu];omega];exact I
theorem dj:cr sz rows=true↔∀r∈rows,r.length=sz:=by
 simp[cr]
theorem gX{sz:Nat}{g:Type}:∀(rows:List (List g)),(∀r∈rows,r.length=sz)->rows.flatten.length=rows.length*sz
 |[],_=>by simp|r::rows,h=>by
  simp only[ae0,adV,aeo];rw[gX rows λr H=>h r (by simp[H]),h r (by simp),aiu];omega
def vK{g:Type}(sz:Nat):Nat->List g->List (List g)
 |0,_=>[]
 |n+1,xs=>xs.take sz::vK sz n (xs.drop sz)
theorem GI{g:Type}(s:Nat):∀(n:Nat)(x:List g),(vK s n x).length=n
 |0,_=>rfl|n+1,x=>by simp[vK,GI s n]
theorem I5{g:Type}(s:Nat):∀(n:Nat)(x:List g)(i:Nat) y,(vK s n x)[i]?=some y->y=(x.drop (i*s)).take s
 |0,_,_,_,h=>by simp[vK]at h|n+1,x,0,y,h=>by simp[vK]at h;simp[h]|n+1,x,i+1,y,h=>by
  simp only[vK,List.getElem?_cons_succ]at h;rw[I5 s n _ i y h,agO];congr 2;rw[aiu];omega
theorem LN{s:Nat}:∀(rows:List (List AV))(i:Nat) r,(∀r∈rows,r.length=s)->rows[i]?=some r->(rows.flatten.drop (i*s)).take s=r
 |[],_,_,_,h=>by simp at h|r0::rows,0,r,H,h=>by
  simp at h;subst h;have g:r0.length=s:=H r0 (by simp);simp[<-g]
 |r0::rows,i+1,r,H,h=>by
  have I:=LN rows i r (λr j=>H r (by simp[j])) (by simpa using h);have g:r0.length=s:=H r0 (by simp);simp only[ae0];rw[show (i+1)*s=r0.length+i*s by rw[g,aiu];omega,<-agO,List.drop_left];exact I
theorem vL{sz:Nat}(b:Nat):∀(rows:List (List AV))(xs:List Value),(∀r∈rows,r.length=sz)->rows.flatten.length=xs.length->iC b rows (vK sz rows.length xs)=cP b rows.flatten xs
 |[],xs,_,_=>by simp[iC,IT]|r::rows,xs,H,h=>by
  have j:r.length=sz:=H r (by simp);simp only[aeo,vK,iC,ae0];rw[ae0,adV]at h;rw[vL b rows (xs.drop sz) (λr g=>H r (by simp[g])) (by rw[List.length_drop];omega)];have:=iB b r rows.flatten (xs.take sz) (xs.drop sz) (by rw[List.length_take];omega);rw[List.take_append_drop]at this;omega
theorem qS{loc:nM}{off:Nat}{c:Array Value}{e:TypeId}{xs:List Value}(H:cr sz rows=true)(K:∀r∈rows,AV.bC r=true)(F:dg w G rows.flatten xs)
  (g:loc.len=rows.length)(l:loc.sz=sz)(h:loc.vals=vK sz rows.length xs)(m:loc.a=some ⟨b,off,none⟩)(V:0<loc.cap)(z:w.heap[b]?=some (.cells c e (0,0)))(Y:off+loc.cap*sz<=c.size)
  (n:rows.length<=loc.cap) (p:G.oY b=some 0) (D:∀(k:Nat) x,xs[k]?=some x->w.cell? ⟨b,off+k,none⟩=some x):AN w G sz rows loc where
 yT:=H
 HY:=K
 len:=g
 size:=l
 xQ:=by rw[h,GI]
 yh:=λi r y E q=>by
  rw[h]at q;rw[I5 _ _ _ _ _ q,<-LN rows i r (dj.1 H) E];exact(F.drop _).take _
 tT:=by
  refine .inr ⟨b,off,c,e,m,V,z,Y,n,p,λi y j x E q=>?_⟩;rw[h]at E;rw[I5 _ _ _ _ _ E,aeq]at q;split at q;rw[agL]at q;exact D _ x q;cases q
end Ax
namespace Ax
open Go
variable {P:Program}{w w':World}{G G':bD}{β jm:List qh}{ρ:Operand->Value}{o:Oper}
variable{c:Array Value}{e t:TypeId}{cap sz n:Nat}{rows:List (List AV)}{X xs:List Value}{st:aj}{B:bK}{z:Value}{zero:List AV}
theorem I6(H:w'.heap=w.heap.push (.cells c e)){k:Nat}{x:Value}(h:c[k]?=some x):w'.cell? ⟨w.heap.size,k,none⟩=some x:=by
 simp[World.cell?,H,h]
theorem vM{ob:Obj}(H:w'.heap=w.heap.push ob):w'.heap[w.heap.size]?=some ob:=by simp[H]
theorem ZL{s:Nat}{l:List nM}(H:w'.heap=w.heap.push (.cells c e))(h:cr s rows=true)(K:∀r∈rows,AV.bC r=true)
  (F:dg w G rows.flatten X)(V:0<cap)(Y:cap*s<=c.size)(n:rows.length<=cap)(g:∀(k:Nat) x,X[k]?=some x->c[k]?=some x)(C:Nat) :
  AN w' (G.new w.heap.size (some 0) l) s rows ⟨some ⟨w.heap.size,0,none⟩,cap,rows.length,s,C,false,vK s rows.length X⟩:=
 qS h K (F.push H _ _) rfl rfl rfl rfl V (vM H) (by simpa using Y) n (by simp[bD.new]) λk x j=>by
  rw[aij];exact I6 H (g k x j)
theorem AR(g:lN w G st)(m:mD w G β B){cO:Nat->Nat}(j:w'.heap=w.heap.push (.cells c e))(S:w'.os=w.os)(C:w'.output=w.output)
  (n:cr sz rows=true)(K:∀r∈rows,AV.bC r=true)(F:dg w G rows.flatten xs)(V:0<cap)(Y:cap*sz<=c.size)(q:rows.length<=cap)
  (v:∀(k:Nat) x,xs[k]?=some x->c[k]?=some x) (t:∀b,cP b rows.flatten xs<=cO b) :
  ∃G',lC w G β st B cO w' G' β (st++[.rows 0 sz rows]) B (.val (.mu st.length 0)) (.slice (some ⟨w.heap.size,0,none⟩) rows.length cap)/\
   lC w G β st B cO w' G' β (st++[.rows 0 sz rows]) B (.val (.ptr st.length 0 0 0)) (.pointer (some ⟨w.heap.size,0,none⟩)):=by
 have z:=ZL (l:=[⟨some ⟨w.heap.size,0,none⟩,cap,rows.length,sz,0,false,vK sz rows.length xs⟩]) j n K F V Y q v 0;have s:∀b,j8 b ⟨some ⟨w.heap.size,0,none⟩,cap,rows.length,sz,0,false,vK sz rows.length xs⟩ (.rows 0 sz rows)<=(if b=w.heap.size then 1 else 0)+cO b:=by
  intro b;simp only[j8,nM.kC];rw[vL b rows xs (dj.1 n) F.1,U (show ¬cap=0 by omega)];have:=t b;simp only[afo,bw];by_cases H:b=w.heap.size;subst H;simp;omega;rw[U (λh=>H h.symm),U H];omega
 have p:(G.new w.heap.size (some 0) [⟨some ⟨w.heap.size,0,none⟩,cap,rows.length,sz,0,false,vK sz rows.length xs⟩]).ls[st.length]?=some ⟨some ⟨w.heap.size,0,none⟩,cap,rows.length,sz,0,false,vK sz rows.length xs⟩:=by
  simp only[bD.new];rw[acP (by rw[g.len];exact acO _),g.len];simp
 refine⟨_,w8 j S C g m ⟨rfl,rfl,z⟩ (.mu _ _ _ _ ⟨_,_,_,rfl⟩ p (acO _) λ_=>rfl) rfl s,
  w8 j S C g m ⟨rfl,rfl,z⟩ (.ptr _ _ _ _ _ _ ⟨_,rfl⟩ p (acO _) λ_=>⟨_,rfl,by simp⟩) rfl s⟩
theorem MZ{b off:Nat}(n:cr sz rows=true)(K:∀r∈rows,AV.bC r=true)(E:∀r∈rows,AV.fJ r=true)(S:∀r∈rows,AV.aB r=true)
  (m:dg w G rows.flatten xs)(z:w.heap[b]?=some (.cells c e (0,0)))(Y:off+cap*sz<=c.size)(q:rows.length<=cap)(s:G.oY b=some (off+rows.length*sz))
  (t:∀(k:Nat) x,xs[k]?=some x->c[off+k]?=some x):bF w G (.ju sz rows) (.slice (some ⟨b,off,none⟩) rows.length cap):=by
 have Q:∀(k:Nat) x,xs[k]?=some x->w.cell? ⟨b,off+k,none⟩=some x:=λk x h=>by simp[World.cell?,z,t k x h]
 have key:∀(i:Nat) r (j:Nat) a,rows[i]?=some r->r[j]?=some a->∃v,w.cell? ⟨b,off+(i*sz+j),none⟩=some v/\bF w G a v:=by
  intro i r j a H g;have l:=w9 rows i j r a (dj.1 n) H g;have F:i*sz+j<xs.length:=by rw[<-m.1];exact(aac.1 l).1
  exact⟨_,Q _ _ (aas F),m.2 _ _ _ l (aas F)⟩
 refine .ju sz rows ⟨b,off,none⟩ cap rfl q n E S K (λi r j a H g=>?_) (λi r j a v H g l=>?_) s ⟨c,e,z,Y⟩;obtain⟨v,h,_⟩:=key i r j a H g;exact⟨v,h⟩;obtain⟨V,h,p⟩:=key i r j a H g;rw[h]at l;cases l;exact p
theorem M0(g:lN w G st)(j:mD w G β B){cO:Nat->Nat}(H:w'.heap=w.heap.push (.cells c e))(s:w'.os=w.os)(C:w'.output=w.output)
  (l:cr sz rows=true)(K:∀r∈rows,AV.bC r=true)(E:∀r∈rows,AV.fJ r=true)(S:∀r∈rows,AV.aB r=true)
  (F:dg w G rows.flatten xs) (Y:cap*sz<=c.size) (n:rows.length<=cap)
  (p:∀(k:Nat) x,xs[k]?=some x->c[k]?=some x) :
  ∃G',lC w G β st B cO w' G' β st B (.val (.ju sz rows)) (.slice (some ⟨w.heap.size,0,none⟩) rows.length cap):=by
 refine⟨_,H6 H s C (some (rows.length*sz)) g j (MZ l K E S (F.push H _ _) (vM H) (by simpa using Y) n (by simp[bD.new]) λk x m=>by rw[aij];exact p k x m) λb=>?_⟩;simp only[iw];split;rename_i h;rw[af h.symm];omega;omega
theorem aeO{s:Nat}{b off:Nat}(n:cr s rows=true)(K:∀r∈rows,AV.bC r=true)(E:∀r∈rows,AV.fJ r=true)(S:∀r∈rows,AV.aB r=true)
  (m:dg w G rows.flatten X)(z:w.heap[b]?=some (.cells c e (0,0)))(Y:off+cap*s<=c.size)(q:rows.length<=cap)(t:G.oY b=some 0)
  (y:∀(k:Nat) x,X[k]?=some x->c[off+k]?=some x):bF w G (.raw s rows) (.slice (some ⟨b,off,none⟩) rows.length cap):=by
 have Q:∀(k:Nat) x,X[k]?=some x->w.cell? ⟨b,off+k,none⟩=some x:=λk x h=>by simp[World.cell?,z,y k x h]
 have key:∀(i:Nat) r (j:Nat) a,rows[i]?=some r->r[j]?=some a->∃v,w.cell? ⟨b,off+(i*s+j),none⟩=some v/\bF w G a v:=by
  intro i r j a H g;have l:=w9 rows i j r a (dj.1 n) H g;have F:i*s+j<X.length:=by rw[<-m.1];exact(aac.1 l).1
  exact⟨_,Q _ _ (aas F),m.2 _ _ _ l (aas F)⟩
 refine .raw s rows ⟨b,off,none⟩ cap rfl q n E S K (λi r j a H g=>?_) (λi r j a v H g l=>?_) t ⟨c,e,z,Y⟩;obtain⟨v,h,_⟩:=key i r j a H g;exact⟨v,h⟩;obtain⟨V,h,p⟩:=key i r j a H g;rw[h]at l;cases l;exact p
theorem aeP(g:lN w G st)(j:mD w G β B){cO:Nat->Nat}(H:w'.heap=w.heap.push (.cells c e))(s:w'.os=w.os)(C:w'.output=w.output)
  (l:cr sz rows=true)(K:∀r∈rows,AV.bC r=true)(E:∀r∈rows,AV.fJ r=true)(S:∀r∈rows,AV.aB r=true)
  (F:dg w G rows.flatten xs) (Y:cap*sz<=c.size) (n:rows.length<=cap)
  (p:∀(k:Nat) x,xs[k]?=some x->c[k]?=some x) :
  ∃G',lC w G β st B cO w' G' β st B (.val (.raw sz rows)) (.slice (some ⟨w.heap.size,0,none⟩) rows.length cap):=by
 refine⟨_,H6 H s C (some 0) g j (aeO l K E S (F.push H _ _) (vM H) (by simpa using Y) n (by simp[bD.new]) λk x m=>by rw[aij];exact p k x m) λb=>?_⟩;simp only[iw];split;rename_i h;rw[af h.symm];omega;omega
theorem UQ{m:List AV}{bx:bK}(v:lN w G st)(n:mD w G β bx){cO:Nat->Nat}(H:w'.heap=w.heap.push (.cells c e))(S:w'.os=w.os)(C:w'.output=w.output)
  {j:Nat}(X:j<bx.length)(F:dg w G m c.toList)(K:AV.bC m=true)(hc:∀b,cP b m c.toList<=cO b) :
  lC w G β st bx cO w' (G.new w.heap.size (some 0) []) (β.set j ⟨some w.heap.size,c.toList⟩) st (bx.set j m) (.fp j 0) (.pointer (some ⟨w.heap.size,0,none⟩)) where
 kV:=w7 H _ _
 inv:=UP H _ v
 box:=by
  have q:=IZ H (some 0) [] n;refine⟨by simp[n.len],λi r g h l=>?_⟩;rw[aek]at h l;split at h;rename_i t;subst t;rw[af rfl,af (by rw[n.len];exact X)]at l;cases h;cases l;refine⟨F.push H _ _,K,.inr ⟨w.heap.size,c,e,rfl,vM H,by rw[F.1];simp,by simp[bD.new],λk x y=>I6 H (by simpa using y)⟩⟩;rw[U (by assumption)]at l;exact q.box i r g h l
 yb:=⟨_,_,by rw[aek,af rfl,af (by rw[n.len];exact X)],rfl,rfl⟩
 iw:=λb=>by
  have s:j<β.length:=by rw[n.len];exact X
  have O:β[j]?=some β[j]:=aas s;have hr:bx[j]?=some bx[j]:=aas X;have h:=D4 b β bx j _ _ ⟨some w.heap.size,c.toList⟩ m O hr;have l:=hc b;simp only[dz,bD.new,afe];simp only[bw]at h;by_cases p:w.heap.size=b;subst p;simp only[bh]at h;rw[af (acO _)];omega;rw[U p]at h;omega
 AQ:=λb _ p=>jx H _ _ p
 size:=by rw[H];simp
 os:=S
 out:=C
theorem UR(H:o.op=.alloc t){i:TypeInfo}(h:P.info? t=some i)(g:i.zero=some z) :
  (execOp ρ o).run P w=.ok (.value (.pointer (some ⟨w.heap.size,0,none⟩))) (w.alloc (.cells z.cells t)):=by
 simp[execOp,H,Instr.alloc,zeroValue,typeInfo,h,g,newVar,newRow]
theorem aia{x:Operand}(z:o.op=.box t x) :
  (execOp ρ o).run P w=.ok (.value (.pointer (some ⟨w.heap.size,0,none⟩))) (w.alloc (.cells (ρ x).cells t)):=by
 simp[execOp,z,Instr.box,newVar,newRow]
theorem LO(h:∀c∈zero,c.de=true/\c.aH=true)(b:Nat)(xs:List Value):cP b zero xs=0:=
 eZ b _ _ ((dD zero).2 λc H=>(h c H).1)
theorem Xb(g:lN w G st)(j:mD w G β B){cO:Nat->Nat}(F:dg w G zero z.cells.toList)(k:∀c∈zero,c.de=true/\c.aH=true)(H:AV.bC zero=true) :
  ∃G',lC w G β st B cO (w.alloc (.cells z.cells t)) G' β (st++[.rows 0 zero.length [zero]]) B (.val (.ptr st.length 0 0 0)) (.pointer (some ⟨w.heap.size,0,none⟩)):=by
 obtain⟨G',_,h⟩:=AR (sz:=zero.length) (cap:=1) (rows:=[zero]) (c:=z.cells) (e:=t) (xs:=z.cells.toList) (w':=w.alloc (.cells z.cells t)) (cO:=cO) g j rfl rfl rfl (by simp[cr]) (by simpa using H) (by simpa using F) (by omega)
  (by rw[F.1];simp) (by simp) (by simp) (λb=>by simp only[ae0,aoS,afe];rw[LO k];omega)
 exact⟨G',h⟩
theorem ZM(k:lN w G st)(j:mD w G β B){cO:Nat->Nat}{a:AV}{v:Value}(p:bF w G a v)(g:a.cells.length=n)(m:AV.bC a.cells=true)(l:∀b,iw b a v<=cO b) :
  ∃G',lC w G β st B cO (w.alloc (.cells v.cells t)) G' β (st++[.rows 0 n [a.cells]]) B (.val (.ptr st.length 0 0 0)) (.pointer (some ⟨w.heap.size,0,none⟩)):=by
 obtain⟨H,y⟩:=p.cells;obtain⟨G',_,h⟩:=AR (sz:=n) (cap:=1) (rows:=[a.cells]) (c:=v.cells) (e:=t) (xs:=v.cells.toList) (w':=w.alloc (.cells v.cells t)) (cO:=cO) k j rfl rfl rfl (by simp[cr,g]) (by simpa using m) (by simpa using H) (by omega)
  (by rw[<-g,H.1];simp) (by simp) (by simp) (λb=>by simp only[ae0,aoS,afe];rw[y];exact l b)
 exact⟨G',h⟩
theorem I7{m:Type}{s:Nat}:∀(rows:List (List m))(i:Nat)(r:List m),(∀r∈rows,r.length=s)->r.length=s->i<rows.length->(rows.set i r).flatten=ay rows.flatten (i*s) r
 |[],_,_,_,_,h=>by simp at h|r0::rows,0,r,j,H,_=>by
  have k:r0.length=s:=j r0 (by simp);have e:=l7 (r0++rows.flatten) 0 r (by simp;omega);simp only[aja,ae0,aoH];rw[e];simp[H,<-k]
 |r0::rows,i+1,r,j,H,h=>by
  have k:r0.length=s:=j r0 (by simp);have g:∀r∈rows,r.length=s:=λr H=>j r (by simp[H]);have I:=I7 rows i r g H (by simpa using h);have F:i<rows.length:=by simpa using h
  have l:i*s+r.length<=rows.flatten.length:=by
   rw[gX rows g,H]
   calc i*s+s=(i+1)*s:=by rw[aiu]
    _<=rows.length*s:=aez _ F
  have n:(i+1)*s=r0.length+i*s:=by rw[k,aiu];omega
  simp only[ajR,ae0];rw[I,n,l7 (r0++rows.flatten) _ _ (by rw[adV];omega),l7 _ _ _ l,Nat.add_assoc,List.take_append,List.drop_append];simp[List.append_assoc,show r0.length+i*s-r0.length=i*s by omega,show r0.length+(i*s+r.length)-r0.length=i*s+r.length by omega,List.take_of_length_le,List.drop_of_length_le]
theorem C3{s:Nat}:∀(q:List Nat)(vs:List AV)(rows F:List (List AV)),(∀r∈rows,r.length=s)->iK s rows q vs=some F->
  kq rows.flatten (q.map λi=>(i*s,s)) vs=some F.flatten/\(∀r∈F,r.length=s)/\F.length=rows.length
 |[],[],rows,F,g,h=>by simp[iK]at h;subst h;exact⟨rfl,g,rfl⟩|[],_::_,_,_,_,h=>by simp[iK]at h|_::_,[],_,_,_,h=>by simp[iK]at h|i::q,v::vs,rows,F,g,h=>by
  simp only[iK]at h;split at h;rename_i H;simp only[Ee,aA]at H;have j:∀r∈rows.set i v.cells,r.length=s:=by
   intro r n;rcases List.mem_or_eq_of_mem_set n with h|h;exact g r h;rw[h];exact H.1
  obtain⟨E,l,m⟩:=C3 q vs _ F j h;refine⟨?_,l,by simpa using m⟩;have k:i*s+s<=rows.flatten.length:=by
   rw[gX rows g]
   calc i*s+s=(i+1)*s:=by rw[aiu]
    _<=rows.length*s:=aez _ H.2
  simp only[aei,kq];rw[af (by simp only[H.1,decide_true,Bool.true_and,aA];exact k),<-I7 rows i v.cells g H.1 H.2];exact E;cases h
theorem Dx(sz n:Nat)(zero:List AV)(H:zero.length=sz)(K:0<sz)(k:Nat)(j:k<n*sz):(acp n zero).flatten[k]?=zero[k % sz]?:=by
 have g:k / sz<n:=Nat.div_lt_of_lt_mul (by rw[Nat.mul_comm];exact j);have X:k % sz<zero.length:=by rw[H];exact Nat.mod_lt _ K
 have h:=w9 (sz:=sz) (acp n zero) (k / sz) (k % sz) zero zero[k % sz] (λr l=>by rw[aem l,H]) (by rw[List.getElem?_replicate,af g]) (aas X);rw[Nat.mul_comm,Nat.div_add_mod]at h;rw[h,aas X]
theorem Fy{z:Array Value}(F:dg w G zero z.toList)(h:zero.length=sz)(K:0<sz) :
  dg w G (acp n zero).flatten (((Array.range (n*sz)).map (z[· % z.size]!)).toList):=by
 have m:z.size=sz:=by rw[<-h,F.1];simp
 refine⟨by rw[gX (sz:=sz) _ (λr p=>by rw[aem p,h])];simp,λk c v g H=>?_⟩;have j:k<n*sz:=by
  have:=(aac.1 H).1;simpa using this
 rw[Dx sz n zero h K k j]at g;have l:k % sz<z.size:=by rw[m];exact Nat.mod_lt _ K
 simp only[aoa,Array.toList_range,aej,aiX j,afo,bw,m]at H;refine F.2 _ c v g ?_;rw[<-H,getElem!_pos z (k % sz) l];simp[l]
theorem aib{parts:Array (Nat×Operand)}(O:o.op=.buildSlice t n parts)(S:P.underlying t=some (.slice e))(C:dA P e sz=true)(SH:n*sz<=16777216)(W:rK P e zero=true)
  (g:0<sz)(U:zero.length=sz){Q:List Nat}(R:parts.toList.map (·.1)=Q){vs:List AV}(Y:iK sz (acp n zero) Q vs=some rows)(L:0<n)(V:dg w G vs (parts.toList.map λp=>ρ p.2)) :
  ∃cells,(execOp ρ o).run P w=.ok (.value (.slice (some ⟨w.heap.size,0,none⟩) rows.length n)) (w.alloc (.cells cells e))/\dg w G rows.flatten cells.toList/\(∀b,cP b rows.flatten cells.toList<=cP b vs (parts.toList.map λp=>ρ p.2))/\
   cr sz rows=true/\rows.length=n/\n*sz=cells.size:=by
 obtain⟨i,z,s,Z,N,v,_⟩:=oK W w G;obtain⟨i',J,K,_⟩:=nW C;rw[s]at J;cases J;obtain⟨y,E,B⟩:=C3 Q vs _ rows (λr m=>by rw[aem m,U]) Y;have M:(parts.map λ(x:Nat×Operand)=>(x.1,ρ x.2)).toList.map (·.2)=parts.toList.map λp=>ρ p.2:=by simp[Function.comp_def]
 obtain⟨cells,D,F,I⟩:=MS (place:=λi=>some (i*sz,sz)) (parts.map λ(x:Nat×Operand)=>(x.1,ρ x.2)).toList _ vs _ _ _ y (Fy N U g) (by rw[M];exact V) (by
  intro k p q h H;subst R;simp only[aoa,aej,aex,List.map_map]at h H;obtain⟨p',h,rfl⟩:=h;obtain⟨X,H,rfl⟩:=H;rw[h]at H;cases H
  rfl)
 have T:rows.length=n:=by rw[B];simp
 have l:¬n*i.size=0:=by rw[K];have:=Nat.mul_pos L g;omega
 have:=run_buildSlice w t e n (parts.map λ(x:Nat×Operand)=>(x.1,ρ x.2)) cells i z S s Z (by rw[K];omega) l (by rw[K];exact D);refine⟨cells,?_,F,λb=>?_,dj.2 E,T,?_⟩;simp only[execOp,O,cj,this,dy,Sem.run_pure,T];have h:=I b;rw[M]at h;have H:cP b (acp n zero).flatten ((Array.range (n*sz)).map (z.cells[· % z.cells.size]!)).toList=0:=by
  refine eZ b _ _ ((dD _).2 λc j=>?_);obtain⟨r,m,j⟩:=ai2.1 j;rw[aem m]at j;exact(v c j).1
 omega;have:=F.1;rw[gX rows E,T]at this;simpa using this
theorem PI{x y:Operand}(F:o.op=.makeSlice t x y)(I:P.underlying t=some (.slice e)){bytes:Nat}(E:dA P e sz=true)(g:sL P e bytes=true)(O:rK P e zero=true)(k:0<sz)(U:zero.length=sz)
  {n c:Int}(L:ρ x=.int .i64 n)(M:ρ y=.int .i64 c)(q:0<=n)(s:n<=c)(v:c*bytes<=cZ)(B:c<=9223372036854775807) :
  ∃cells,(execOp ρ o).run P w=.ok (.value (.slice (some ⟨w.heap.size,0,none⟩) n.toNat c.toNat)) (w.alloc (.cells cells e))/\cells.size=c.toNat*sz/\
   dg w G (acp n.toNat zero).flatten (cells.toList.take (n.toNat*sz))/\∀b xs,cP b (acp n.toNat zero).flatten xs=0:=by
 obtain⟨i,z,j,Z,N,m,_⟩:=oK O w G;obtain⟨Q,J,K,_⟩:=nW E;rw[j]at J;cases J;have C:i.bytes=bytes:=by simpa [sL,j] using g
 have:=run_make (P:=P) w t e i z I j Z .i64 .i64 n c q s (by rw[C,Int.mul_comm];simp only[cZ]at v;omega) B;refine⟨madeCells z.cells (c.toNat*i.size),by simp only[execOp,F,L,M,cj,this,dy,Sem.run_pure],by rw[size_madeCells,K],?_,λb xs=>?_⟩;have D:n.toNat*sz<=c.toNat*sz:=aez _ (by omega);have h:=Fy (w:=w) (G:=G) (n:=c.toNat) N U k;have p:=h.take (n.toNat*sz);rw[K];unfold madeCells;have e:(acp c.toNat zero).flatten.take (n.toNat*sz)=(acp n.toNat zero).flatten:=by
  have:c.toNat=n.toNat+(c.toNat-n.toNat):=by omega
  rw[this,<-List.replicate_append_replicate,alL,ao4];exact gX (sz:=sz) _ (λr l=>by rw[aem l,U]) |>.trans (by simp)
 rw[e]at p;exact p;refine eZ b _ _ ((dD _).2 λc H=>?_);obtain⟨r,l,H⟩:=ai2.1 H;rw[aem l]at H;exact(m c H).1
theorem aeS(g:lN w G st)(j:mD w G β B){cO:Nat->Nat}:∃G',lC w G β st B cO (w.alloc (.map #[] 0)) G' β (st++[.map []]) B (.val (.map st.length)) (.map (some w.heap.size)):=by
 have H:(G.new w.heap.size (some 0) [⟨some ⟨w.heap.size,0,none⟩,1,0,0,0,true,[]⟩]).ls[st.length]?=some ⟨some ⟨w.heap.size,0,none⟩,1,0,0,0,true,[]⟩:=by
  simp only[bD.new];rw[acP (by rw[g.len];exact acO _),g.len];simp
 refine⟨_,w8 (loc:=⟨some ⟨w.heap.size,0,none⟩,1,0,0,0,true,[]⟩) (ao:=.map []) (w':=w.alloc (.map #[] 0)) (ob:=.map #[] 0) rfl rfl rfl g j ⟨rfl,rfl,w.heap.size,#[],0,rfl,vM rfl,by simp[bD.new],rfl,λi k v e h=>by simp at h⟩ (.map _ _ _ H rfl rfl) rfl λb=>?_⟩;simp only[j8,nM.kC];by_cases l:b=w.heap.size;subst l;simp;simp[l];rw[U λh=>l h.symm];omega
end Ax
namespace Ax
open Go
variable {P:Program}{w w':World}{G G':bD}{β jm:List qh}{ρ:Operand->Value}{o:Oper}
theorem tn{g:Type}{s:Nat}:∀(rows:List (List g))(k:Nat)(c:g),(∀r∈rows,r.length=s)->rows.flatten[k]?=some c->∃i j r,k=i*s+j/\rows[i]?=some r/\r[j]?=some c
 |[],k,c,_,h=>by simp at h|r0::rows,k,c,H,h=>by
  have p:r0.length=s:=H r0 (by simp);simp only[ae0]at h;by_cases l:k<r0.length;rw[acJ l]at h;exact⟨0,k,r0,by simp,rfl,h⟩;rw[acP (by omega)]at h;obtain⟨i,j,r,n,q,E⟩:=tn rows _ c (λr m=>H r (by simp[m])) h;exact⟨i+1,j,r,by rw[aiu];omega,by simpa using q,E⟩
theorem y6:∀(rows:List (List AV))(vals:List (List Value)),rows.length=vals.length->(∀(i:Nat) r X,rows[i]?=some r->vals[i]?=some X->dg w G r X)->dg w G rows.flatten vals.flatten
 |[],[],_,_=>⟨rfl,λi c v h=>by simp at h⟩
 |[],_::_,h,_=>by simp at h|_::_,[],h,_=>by simp at h|r::rows,x::vals,m,h=>by
  obtain⟨j,S⟩:=h 0 r x rfl rfl;obtain⟨B,k⟩:=y6 rows vals (by simpa using m) λi r X H g=>h (i+1) r X (by simpa using H) (by simpa using g);refine⟨by simp only[ae0,adV,j,B],λi c v H g=>?_⟩;simp only[ae0]at H g;by_cases l:i<r.length;rw[acJ l]at H;rw[acJ (by omega)]at g;exact S i c v H g;rw[acP (by omega)]at H;rw[acP (by omega),<-j]at g;exact k _ c v H g
theorem D6(b:Nat):∀(rows:List (List AV))(vals:List (List Value)),rows.length=vals.length->(∀(i:Nat) r X,rows[i]?=some r->vals[i]?=some X->r.length=X.length)->cP b rows.flatten vals.flatten=iC b rows vals
 |[],[],_,_=>rfl|[],_::_,h,_=>by simp at h|_::_,[],h,_=>by simp at h|r::rows,x::vals,j,h=>by
  simp only[ae0,iC];rw[iB b r _ x _ (h 0 r x rfl rfl),D6 b rows vals (by simpa using j) λi r X H g=>h (i+1) r X (by simpa using H) (by simpa using g)]
theorem dg.append{as bs:List AV}{xs y:List Value}(h:dg w G as xs)(k:dg w G bs y):dg w G (as++bs) (xs++y):=by
 refine⟨by simp[h.1,k.1],λi c v H g=>?_⟩;by_cases j:i<as.length;rw[acJ j]at H;rw[acJ (by rw[<-h.1];exact j)]at g;exact h.2 i c v H g;rw[acP (by omega)]at H;rw[acP (by rw[<-h.1];omega),<-h.1]at g;exact k.2 _ c v H g
variable{rows:List (List AV)}
theorem PJ{s:Nat}{a:Addr}{n cap:Nat}(h:bF w G (.dV s rows) (.slice (some a) n cap)) :
  n=rows.length/\a.spot=none/\cr s rows=true/\(∀r∈rows,AV.fJ r=true)/\(∀r∈rows,AV.aB r=true)/\(∀r∈rows,AV.bC r=true)/\
  ∃X:List Value,dg w G rows.flatten X/\∀(k:Nat) x,X[k]?=some x->w.cell? ⟨a.block,a.off+k,none⟩=some x:=by
 cases h with
 |dV _ _ _ _ O N J t S C p z=>
 refine⟨rfl,O,J,t,S,C,(List.range rows.flatten.length).map λk=>(w.cell? ⟨a.block,a.off+k,none⟩).getD undef,⟨by simp,λk c v l m=>?_⟩,λk x h=>?_⟩;obtain⟨i,j,r,rfl,q,E⟩:=tn rows k c (dj.1 J) l;obtain⟨_,y,g⟩:=p i r j c q E;have H:=(aac.1 l).1;rw[aej,aiX H,afo,g]at m;cases m;exact z i r j c y q E g;have H:k<rows.flatten.length:=by have:=(aac.1 h).1;simpa using this
 rw[aej,aiX H,afo]at h;obtain⟨i,j,r,rfl,q,E⟩:=tn rows k _ (dj.1 J) (aas H);obtain⟨_,y,g⟩:=p i r j _ q E;rw[g]at h ⊢;simpa using h
theorem GJ(a:AV):a.ai.cM=a.cM:=by cases a<;>simp[AV.ai,AV.cM]
theorem vN:∀(C:List AV),AV.bC (AV.cC C)=AV.bC C
 |[]=>rfl|c::C=>by
  have:=vN C;simp only[AV.bC]at this;simp only[AV.cC,AV.bC,List.all_cons,GJ,this]
theorem C4:∀(rows:List (List AV)),(rows.map AV.cC).flatten=AV.cC rows.flatten
 |[]=>rfl|r::rows=>by
  have g:∀a b:List AV,AV.cC (a++b)=AV.cC a++AV.cC b:=by
   intro a b;induction a with
   |nil=>rfl|cons x a I=>simp only[aer,AV.cC,I]
  simp only[aei,ae0,g,C4 rows]
theorem Xc(l:List UInt8):(qu l).flatten=l.map λb=>AV.int .u8 b.toNat:=by
 unfold qu;induction l with
 |nil=>rfl|cons b l I=>simp only[aei,ae0,I];rfl
theorem FA{st:aj}(hI:lN w G st){a:AV}{v:Value}(h:bF w G a v)(g:dG st a=some rows){S:Nat}(M:cr S rows=true){T:TypeId}
  (z:(∃e',P.underlying T=some (.slice e'))\/P.underlying T=some .string) :
  ∃xs,dg w G rows.flatten xs/\Go.Src P S T v rows.length xs w/\(∀r∈rows,AV.bC r=true)/\(∀r∈rows,AV.fJ r=true)/\((∀id C,a≠.mu id C)->∀r∈rows,AV.aB r=true):=by
 have slice:∀(m:Addr) (c:Nat) (xs:List Value),m.spot=none->dg w G rows.flatten xs->(∀(k:Nat) x,xs[k]?=some x->w.cell? ⟨m.block,m.off+k,none⟩=some x)->(∀r∈rows,AV.bC r=true)->
   Go.Src P S T (.slice (some m) rows.length c) rows.length xs w:=by
  intro m c xs nU D N K;have y:xs.length=rows.length*S:=by rw[<-D.1];exact gX rows (dj.1 M)
  obtain⟨O,of,sp⟩:=m;simp only at nU N;subst nU;have I:∀j u,xs[j]?=some u->w.cell? ((⟨O,of,none⟩:Addr).add j)=some u:=λj u h=>by rw[nY];exact N j u h
  have ZN:∀u∈xs,u.oneCell'=true:=D.aeF (by
   simp only[AV.bC,ac3];intro c U;obtain⟨r,H,U⟩:=ai2.1 U;have:=K r H;simp only[AV.bC,ac3]at this;exact this c U)
  exact⟨z,λ_=>rfl,run_firstCells_some w S rows.length ⟨O,of,none⟩ rows.length c xs y I,run_firstCells_some w.drew S rows.length ⟨O,of,none⟩ rows.length c xs y (by simpa using I),y,ZN⟩
 have dV:∀s,bF w G (.dV s rows) v->∃xs,dg w G rows.flatten xs/\Go.Src P S T v rows.length xs w/\(∀r∈rows,AV.bC r=true)/\(∀r∈rows,AV.fJ r=true)/\((∀id C,a≠.mu id C)->∀r∈rows,AV.aB r=true):=by
  intro s h;have q:∃a n c,v=.slice (some a) n c:=by cases h;exact⟨_,_,_,rfl⟩
  obtain⟨m,n,c,rfl⟩:=q;obtain⟨e1,Q,e3,e4,e5,e6,xs,e7,e8⟩:=PJ h;subst e1;exact⟨xs,e7,slice m c xs Q e7 e8 e6,e6,e4,λ_=>e5⟩
 have B:rows=[]->∀c,v=.slice none 0 c->∃xs,dg w G rows.flatten xs/\Go.Src P S T v rows.length xs w/\(∀r∈rows,AV.bC r=true)/\(∀r∈rows,AV.fJ r=true)/\((∀id C,a≠.mu id C)->∀r∈rows,AV.aB r=true):=by
  intro q c hv;subst q;subst hv;exact⟨[],⟨rfl,λi c v h=>by simp at h⟩,⟨z,λ_=>rfl,run_firstCells_none w S 0 0 c,run_firstCells_none w.drew S 0 0 c,by simp,λu W=>by cases W⟩,by simp,by simp,by simp⟩
 unfold dG at g;split at g
 ·rename_i l;cases g;obtain⟨s,rfl,rfl⟩:=h.p5;refine⟨byteCells s,?_,?_,?_,?_,?_⟩;rw[Xc];unfold byteCells;refine⟨by simp,λi c v L t=>?_⟩;simp only[aej,aex]at L t;obtain⟨b,L,rfl⟩:=L;obtain⟨b',t,rfl⟩:=t;rw[L]at t;cases t;exact .int _ _;have p:(qu s.data.toList).length=s.size:=by simp[qu]
  rw[p];have one:∀u∈byteCells s,u.oneCell'=true:=λu W=>by
   obtain⟨_,_,rfl⟩:=ad7.1 W
   rfl
  by_cases hs:S=1;subst hs;exact⟨z,λ_=>rfl,firstCells_string s w,firstCells_string s w.drew,by rw[byteCells_length,Nat.mul_one],one⟩;have q:s.size=0:=by
   rcases Nat.eq_zero_or_pos s.size with h|h;exact h;have t:s.data.toList≠[]:=by
    intro h3;have:s.data.toList.length=s.size:=by simp
    rw[h3]at this;simp at this;omega
   obtain⟨b,l,y⟩:=List.exists_cons_of_ne_nil t;rw[y]at M;simp[cr,qu]at M;exact au M.1.symm hs
  have M3:byteCells s=[]:=by
   apply ad8;rw[byteCells_length,q]
  have E:∀w',(Builtin.firstCells S s.size (.string s)).run P w'=.ok (byteCells s).toArray w':=λw'=>firstCells_string s w';exact⟨z,λ_=>rfl,E w,E w.drew,by rw[M3,q,aoH];rfl,one⟩;all_goals
   intros
   rename_i H;simp only[qu,ad7]at H;obtain⟨b,_,rfl⟩:=H;simp[AV.bC,AV.cM,AV.fJ,AV.de,AV.aB,AV.aH]
 ·rename_i id C;split at g
  ·rename_i F H;cases g;simp only[fA]at H;split at H
   ·rename_i v' s atW iH;split at H
    ·rename_i hv;cases H;obtain⟨loc,y,Fx,GB,J⟩:=hI.loc iH;cases h with
     |mu _ _ _ loc' hp wQ CF he=>
      rw[y]at wQ;cases wQ;have X:C=loc.cW:=(by omega);have R:=he X;rw[J.len]at R;have K:∀r∈F.map AV.cC,AV.bC r=true:=λr H=>by
       obtain⟨Y,Z,rfl⟩:=ad7.1 H;rw[vN];exact J.HY Y Z
      have ee:∀r∈F.map AV.cC,AV.fJ r=true:=λr H=>by
       obtain⟨Y,Z,rfl⟩:=ad7.1 H;exact iV Y
      rcases J.tT with⟨q,th,_⟩|⟨b,off,c,e',SA,iA,gK,hle,p,jW,fB⟩
      ·subst th;simp only[List.length_nil]at R;cases ZO:loc.a with
       |none=>
        rw[ZO]at R;exact B (by simp) _ R
       |some m=>
        refine⟨[],⟨rfl,λi c v h=>by simp at h⟩,⟨z,λ_=>by rw[R];simp[Builtin.lenOf],?_,?_,by simp,by simp⟩,K,ee,λh=>au rfl (h id C)⟩;all_goals
         rw[R,ZO];simp[Builtin.firstCells,loadCells,loadCellsFrom]
      rw[SA]at R;subst R;have D:dg w G (F.map AV.cC).flatten loc.vals.flatten:=by
       rw[C4];exact(y6 F loc.vals J.xQ.symm J.yh).ai
      have UT:∀r∈loc.vals,r.length=s:=λr H=>by
       obtain⟨i,hi,rfl⟩:=List.mem_iff_getElem.1 H;have j7:i<F.length:=(by rw[<-J.xQ];exact hi);rw[<-(J.yh i F[i] loc.vals[i] (aas j7) (aas hi)).1];exact dj.1 J.yT _ (List.getElem_mem j7)
      have:=slice ⟨b,off,none⟩ loc.cap loc.vals.flatten rfl D (λk x N=>by
       obtain⟨i,j,r,rfl,Q,e3⟩:=tn loc.vals k x UT N;exact fB i r j x Q e3) K
      simp only[List.length_map]at this ⊢;exact⟨_,D,this,K,ee,λh=>au rfl (h id C)⟩
    cases H
   cases H
  cases g
 ·rename_i Zb V;unfold fA at g;split at g;cases g;cases h;exact B rfl _ rfl
  ·cases g;cases h;rename_i m;refine⟨[],⟨rfl,λi c v h=>by simp at h⟩,⟨z,λ_=>rfl,?_,?_,by simp,by simp⟩,by simp,by simp,by simp⟩;all_goals simp[Builtin.firstCells,loadCells,loadCellsFrom]
  cases g;exact dV _ h;cases g;exact dV _ h.ai;rename_i id C;exact au rfl (V id C);cases g
end Ax
namespace Ax
open Go
variable {P:Program}{w w':World}{G G':bD}{β jm:List qh}{ρ:Operand->Value}{o:Oper}
theorem jB(g p:Nat)(t:TypeId)(vs:List Value)(gD:Array Value)(w:World)(O:w.heap[g]?=some (.cells gD t (0,0)))(H:p+vs.length<=gD.size)(h:∀v∈vs,v.oneCell'=true) :
  (storeCells ⟨g,p,none⟩ vs).run P w=.ok () (w.setRow g (ay gD.toList p vs).toArray):=by
 have:=run_storeCells_at P g p t vs 0 gD w O (by simpa using H) h;rw[l7 _ _ _ (by simpa using H)];simpa using this
structure Wr (w:World)(G:bD)(w':World)(G':bD)(b:Nat):Prop where
 size:w'.heap.size=w.heap.size
 heap:∀b',b'≠b->w'.heap[b']?=w.heap[b']?
 aeU:∀b',b'≠b->G'.oY b'=G.oY b'
 oY:∃p p',G.oY b=some p/\G'.oY b=some p'/\p<=p'/\∀o,o<p->w'.cell? ⟨b,o,none⟩=w.cell? ⟨b,o,none⟩
 fP:∀(id:Nat) loc,G.ls[id]?=some loc->∃loc',G'.ls[id]?=some loc'/\loc.cW<=loc'.cW/\(loc.cW=loc'.cW\/loc.mp=true->loc'.hd=loc.hd)
theorem Wr.kV{b:Nat}(h:Wr w G w' G' b):wZ w G w' G' where
 ZD:=λB o hi=>by
  by_cases l:B=b;subst l;obtain⟨p,r,g,k,n,m⟩:=h.oY;have ho:=hi.2 p g;refine⟨m o ho,by rw[h.size];exact hi.1,λq H=>?_⟩;rw[k]at H;cases H;omega;refine⟨uJ (h.heap B l),by rw[h.size];exact hi.1,λp j=>?_⟩;rw[h.aeU B l]at j;exact hi.2 p j
 fP:=h.fP
theorem Wr.kX{b B:Nat}(h:Wr w G w' G' b)(l:B≠b):fM w G w' G' B:=⟨h.aeU B l,h.heap B l⟩
theorem I8(G:bD):∀(id:Nat) loc,G.ls[id]?=some loc->∃l,G.ls[id]?=some l/\loc.cW<=l.cW/\(loc.cW=l.cW\/loc.mp=true->l.hd=loc.hd):=λ_ loc h=>⟨loc,h,acO _,λ_=>rfl⟩
def bD.at(G:bD)(id:Nat)(loc:nM):bD:=⟨G.ls.set id loc,G.oY⟩
variable{id bytes:Nat}{st:aj}{e:TypeId}{vs:List Value}{i:TypeInfo}{z:Value}
theorem I9{loc loc':nM}(j:G.ls[id]?=some loc)(p:loc.cW<=loc'.cW)(M:loc.cW=loc'.cW\/loc.mp=true->loc'.hd=loc.hd):∀(i:Nat) l,G.ls[i]?=some l->∃g,(G.at id loc').ls[i]?=some g/\l.cW<=g.cW/\(l.cW=g.cW\/l.mp=true->g.hd=l.hd):=by
 intro i l h;by_cases H:i=id;subst H;rw[j]at h;cases h;exact⟨loc',by simp only[bD.at];rw[aek,af rfl,af (aac.1 j).1],p,M⟩;exact⟨l,by simp only[bD.at];rw[aek,U (λe=>H e.symm)];exact h,acO _,λ_=>rfl⟩
theorem SI{loc loc':nM}(H:G.ls[id]?=some loc)(p:loc.cW<=loc'.cW)(M:loc.cW=loc'.cW\/loc.mp=true->loc'.hd=loc.hd):wZ w G w (G.at id loc'):=
 ⟨λ_ _ h=>⟨rfl,h⟩,I9 H p M⟩
theorem H7(j:lN w G st)(hs:wZ w G w' G'){L:nM}{g:dJ}(s:G'.ls=G.ls.set id L)(m:∀(i:Nat) l O b,i≠id->G.ls[i]?=some l->st[i]?=some O->0<j8 b l O->fM w G w' G' b)
  (n:tU w' G' g L)(ht:∀b p,G'.oY b=some p->b<w'.heap.size):lN w' G' (st.set id g) where
 len:=by rw[s];simp[j.len]
 bO:=λi O loc h H=>by
  rw[s]at H;rw[aek]at h H;by_cases hi:id=i;subst hi;rw[af rfl]at h H;split at h;split at H;cases h;cases H;exact n;cases H;cases h;rw[U hi]at h H;exact(j.bO i O loc h H).kV hs λb k=>m i loc O b (λe=>hi e.symm) H h k
 qi:=ht
theorem AS(g:lN w G st)(hs:wZ w G w' G')(s:G'.ls=G.ls)(j:∀b,0<cV b G.ls st->fM w G w' G' b)(ht:∀b p,G'.oY b=some p->b<w'.heap.size):lN w' G' st where
 len:=by rw[s];exact g.len
 bO:=λi O loc h H=>by
  rw[s]at H;refine(g.bO i O loc h H).kV hs λb l=>j b ?_;have:=qQ b G.ls st i loc O H h;omega
 qi:=ht
theorem qx{bx:bK}(l:mD w G β bx)(hs:wZ w G w' G')(m:∀b,0<iJ b β bx->fM w G w' G' b):mD w' G' β bx where
 len:=l.len
 box:=λj h g H k=>(l.box j h g H k).kV hs λb n=>m b (by
  have:=qR b β bx j g h k H;omega)
theorem Wr.qi{b:Nat}{st:aj}(h:Wr w G w' G' b)(g:lN w G st):∀b p,G'.oY b=some p->b<w'.heap.size:=by
 intro B p j;rw[h.size];by_cases l:B=b;subst l;obtain⟨q,Q,H,_⟩:=h.oY;exact g.qi _ _ H;rw[h.aeU B l]at j;exact g.qi _ _ j
theorem Ja{b p n:Nat}{gD:Array Value}{q:Nat}{ls:List nM}(O:w.heap[b]?=some (.cells gD e (0,0)))(hl:q+vs.length<=gD.size)(ht:G.oY b=some p)(g:p<=q)(E:p<=n)
  (h:∀(id:Nat) loc,G.ls[id]?=some loc->∃loc',ls[id]?=some loc'/\loc.cW<=loc'.cW/\(loc.cW=loc'.cW\/loc.mp=true->loc'.hd=loc.hd)) :
  Wr w G (w.setRow b (ay gD.toList q vs).toArray) ⟨ls,λB=>if B=b then some n else G.oY B⟩ b where
 size:=setRow_size _ _ _
 heap:=λB l=>setRow_other w b B _ l
 aeU:=λB l=>by simp[l]
 oY:=⟨p,n,ht,by simp,E,λo ho=>by
  rw[cell_setRow_same w b o gD _ e (0,0) O];have:w.cell? ⟨b,o,none⟩=gD[o]?:=by simp[World.cell?,O]
  rw[this,amW,kW _ _ _ _ (by simpa using hl),U (by omega)];simp⟩
 fP:=h
theorem xd{b q k:Nat}{gD:Array Value}(O:w.heap[b]?=some (.cells gD e (0,0)))(H:q+vs.length<=gD.size) :
  (w.setRow b (ay gD.toList q vs).toArray).cell? ⟨b,k,none⟩=if q<=k/\k<q+vs.length then vs[k-q]? else w.cell? ⟨b,k,none⟩:=by
 rw[cell_setRow_same w b k gD _ e (0,0) O];have:w.cell? ⟨b,k,none⟩=gD[k]?:=by simp[World.cell?,O]
 rw[this,amW,kW _ _ _ _ (by simpa using H)];simp
structure SL (P:Program)(t tx e:TypeId)(sz bytes:Nat)(i:TypeInfo)(z:Value):Prop where
 ht:P.underlying t=some (.slice e)
 hi:P.info? e=some i
 hz:i.zero=some z
 eO:i.size=sz
 hby:i.bytes=bytes
 hzs:z.cells.size=sz
 pos:0<sz
 ZP:0<bytes
 kind:(∃e',P.underlying tx=some (.slice e'))\/P.underlying tx=some .string
theorem UU{n:Nat}(h:n*bytes<=140737488355328)(l:0<bytes):((n:Nat):Int)<=9223372036854775807:=by
 have:n<=n*bytes:=Nat.le_mul_of_pos_right n l;omega
theorem vO{t T ty:TypeId}{s:Nat}(h:SL P t T e s bytes i z)(b off j m:Nat)(gD:Array Value)(E:TypeId)(O:w.heap[b]?=some (.cells gD E (0,0)))(x:Value)(n:Nat)(N:List Value)(H:Go.Src P s T x n N w)
  (U:j+n<=m)(J:off+m*s<=gD.size) :
  (Builtin.append_ #[t,T] ty #[.slice (some ⟨b,off,none⟩) j m,x]).run P w=.ok (.slice (some ⟨b,off,none⟩) (j+n) m) (w.setRow b (ay gD.toList (off+j*s) N).toArray):=by
 have g:off+j*s+N.length<=gD.size:=by
  rw[H.newsLen];have:(j+n)*s<=m*s:=aez _ U;rw[ajp]at this;omega
 have I:=jB (P:=P) b (off+j*s) E N gD w O g H.one;have l:=H.cells;have K:=h.eO;subst K;rcases H.kind with⟨p,k⟩|k<;>simp[Builtin.append_,cn h.ht,cn k,Go.sizeOf,typeInfo,h.hi,H.len,U,l,Addr.add_lit,I]
theorem vP{t T ty:TypeId}{s:Nat}(h:SL P t T e s bytes i z)(base:Option Addr)(j m:Nat)(O:List Value)
  (H:(Builtin.firstCells s j (.slice base j m)).run P w.drew=.ok O.toArray w.drew)(X:O.length=j*s)(x:Value)(n:Nat)(N:List Value)(q:Go.Src P s T x n N w)
  (p:m<j+n) (l:(j+n)*bytes<=140737488355328) :
  ∃cap c,(Builtin.append_ #[t,T] ty #[.slice base j m,x]).run P w=.ok (.slice (some ⟨w.heap.size,0,none⟩) (j+n) cap) (w.drew.alloc (.cells c e))/\j+n<=cap/\cap*s<=c.size/\
   ∀(k:Nat) v,(O++N)[k]?=some v->c[k]?=some v:=by
 have K:=h.eO;subst K;have g:=h.hby;subst g;refine⟨_,_,run_append_grow_src w t T ty e i z h.ht h.hi h.hz base j m O H x n N q p (UU l h.ZP) (growslice_fits p l),grownCap_ge _ _ _ _,?_,λk v r=>?_⟩;have B:=grownCap_ge w (j+n) m e;rw[Array.size_append,size_zeroCells,h.hzs];simp only[aiK,adV,X,q.newsLen];rw[<-ajp,<-ajp];exact aez _ (by omega);have y:=(aac.1 r).1;rw[Array.getElem?_append,af (by simpa using y)];simpa using r
theorem LP(a:Addr):w.drew.cell? a=w.cell? a:=rfl
theorem dg.La{rows:List (List AV)}(h:∀r∈rows,AV.bC r=true):AV.bC rows.flatten=true:=by
 simp only[AV.bC,ac3];intro c H;obtain⟨r,g,H⟩:=ai2.1 H;have:=h r g;simp only[AV.bC,ac3]at this;exact this c H
theorem AT{sz:Nat}{a b:List (List AV)}(h:cr sz a=true)(k:cr sz b=true):cr sz (a++b)=true:=by
 rw[dj]at *;intro r H;rcases aed.1 H with p|p;exact h r p;exact k r p
theorem sM{a b:List (List AV)}{p:List AV->Prop}(h:∀r∈a,p r)(k:∀r∈b,p r):∀r∈a++b,p r:=by
 intro r g;rcases aed.1 g with H|H;exact h r H;exact k r H
theorem ZQ{t tx ty:TypeId}{sz:Nat}(h:SL P t tx e sz bytes i z){n:bK}(p:lN w G st)(S:mD w G β n){cO:Nat->Nat}(hX:∀b,cO b+iJ b β n+cV b G.ls st<=1)
  {s x:AV}{vs V:Value}(F:bF w G s vs)(y:bF w G x V)(l8:∀b,iw b s vs<=cO b){wl ah:Nat}{Z:aj}{iz:bK}{r:fz}(H:bz wl ah (.append sz bytes) [.val s,.val x] st n=some (r,Z,iz)) :
  ∃v w' G',(Builtin.append_ #[t,tx] ty #[vs,V]).run P w=.ok v w'/\lC w G β st n cO w' G' β Z iz r v:=by
 simp only[bz]at H;split at H;cases H
 ·rename_i new uK;split at H
  ·rename_i cm;have M5:∀id cW,x≠.mu id cW:=by
    intro id cW y;subst y;simp[dG,fA]at uK
   have aoL:dG st x=some new:=by
    unfold dG at uK ⊢;cases x<;>simp_all [fA]
   obtain⟨N,R,I,kD,ee,Y⟩:=FA p y aoL cm h.kind;have Y:=Y M5;have fresh:∀base,(Builtin.firstCells sz 0 (.slice base 0 0)).run P w.drew=.ok ([]:List Value).toArray w.drew->new≠[]->new.length*bytes<=cZ->
     ∃v w' G',(Builtin.append_ #[t,tx] ty #[.slice base 0 0,V]).run P w=.ok v w'/\lC w G β st n cO w' G' β st n (.val (.ju sz new)) v:=by
    intro base hf iO g;have hn:0<new.length:=List.length_pos_iff.2 iO;obtain⟨cap,c,E,Q,e3,e4⟩:=vP (ty:=ty) h base 0 0 [] hf (by simp) V new.length N I (by omega) (by simpa [cZ] using g);simp only[aij,List.nil_append]at E Q e4;obtain⟨G',hA⟩:=M0 (w':=w.drew.alloc (.cells c e)) (cO:=cO) p S rfl rfl rfl cm kD ee Y R e3 Q e4;exact⟨_,_,G',E,hA⟩
   split at H;split at H;rename_i J;cases H;have h0:new=[]:=(by simpa using J);subst h0;cases F;have hn:N=[]:=by
    have:=R.1;simp at this;exact ad8 this.symm
   subst hn;have:=run_append_nothing w t tx ty e i h.ht h.hi none 0 0 (acO _) V (by rw[h.eO];exact I);exact⟨_,_,_,this,lC.qw p S (bF.aF) λb=>by simp[dz,iw]⟩;rename_i J;split at H;rename_i g;cases H;cases F;exact fresh none (run_firstCells_none _ _ _ _ _) (by simpa using J) g;cases H
   ·split at H
    ·rename_i J;cases H;have h0:new=[]:=(by simpa using J);subst h0;have hn:N=[]:=by
      have:=R.1;simp at this;exact ad8 this.symm
     subst hn;cases F with
     |oI a=>
     have:=run_append_nothing w t tx ty e i h.ht h.hi (some a) 0 0 (acO _) V (by rw[h.eO];exact I);exact⟨_,_,_,this,lC.qw p S (bF.oI a) λb=>by simp[dz,iw]⟩
    ·rename_i J;split at H
     ·rename_i g;cases H;cases F with
      |oI a=>
      exact fresh (some a) (by simp[Builtin.firstCells,loadCells,loadCellsFrom]) (by simpa using J) g
     cases H
   ·rename_i l jf;split at H
    ·rename_i hc;simp only[Ee,aA]at hc;obtain⟨rfl,g⟩:=hc;cases H;have hv:=F.ai;cases F with
     |ju _ _ a cap nU iA T m L M M3 hr0 jW iG=>
     simp only[AV.ai]at hv;obtain⟨_,_,_,_,_,_,O,q,C⟩:=PJ hv;obtain⟨b,off,sp⟩:=a;simp only at nU jW iG C;subst nU;have Xd:O.length=jf.length*l:=(by rw[<-q.1];exact gX jf (dj.1 T));have Zc:N.length=new.length*l:=I.newsLen;have lQ:=AT T cm;have xg:(jf++new).flatten=jf.flatten++new.flatten:=alL;by_cases ux:jf.length+new.length<=cap;obtain⟨c,e0,hg,K⟩:=iG;have X:off+jf.length*l+N.length<=c.size:=by
      rw[Zc];have:(jf.length+new.length)*l<=cap*l:=aez _ ux;rw[ajp]at this;omega
     have E:=vO (ty:=ty) h b off jf.length cap c e0 hg V new.length N I ux K;have D:Wr w G (w.setRow b (ay c.toList (off+jf.length*l) N).toArray) ⟨G.ls,λB=>if B=b then some (off+(jf++new).length*l) else G.oY B⟩ b:=
      Ja hg X jW (acO _) (by rw[adV,ajp];omega) (I8 G)
     have nZ:cO b=1/\iJ b β n=0/\cV b G.ls st=0:=by
      have h1:=hX b;have h2:=l8 b;simp only[iw,bh]at h2;omega
     have PL:∀B,B≠b->fM w G _ _ B:=λB hb=>D.kX hb;refine⟨_,_,⟨G.ls,λB=>if B=b then some (off+(jf++new).length*l) else G.oY B⟩,E,?_⟩;have aoO:dg (w.setRow b (ay c.toList (off+jf.length*l) N).toArray) ⟨G.ls,λB=>if B=b then some (off+(jf++new).length*l) else G.oY B⟩ (jf++new).flatten (O++N):=by
      rw[xg];refine(q.append R).mono D.kV λB qH=>?_;rw[<-xg,eZ B _ _ ((dD _).2 λx y=>?_)]at qH;omega;obtain⟨r,g,y⟩:=ai2.1 y;exact(dD r).1 (sM m ee r g) x y
     have gK:=setRow_heap w b c (ay c.toList (off+jf.length*l) N).toArray e0 (0,0) hg;have hrv:=MZ (cap:=cap) lQ (sM M kD) (sM m ee) (sM L Y) aoO gK (by rw[aiK,fF];simpa using K) (by simpa using ux) (by simp) (λk x W=>by
      rw[amW,kW _ _ _ _ (by simpa using X)];by_cases vR:k<O.length;rw[acJ vR]at W;rw[U (by omega)];have:=C k x W;simpa [World.cell?,hg] using this;rw[acP (by omega)]at W;have bP:=(aac.1 W).1;rw[af (by omega)];rw[show off+k-(off+jf.length*l)=k-O.length by omega];exact W)
     refine⟨D.kV,AS p D.kV rfl (λB qH=>PL B ?_) (D.qi p),qx S D.kV λB qH=>PL B ?_,by rw[<-adV];exact hrv,λB=>?_,λB qH _=>PL B ?_,by simp,rfl,rfl⟩;intro e;subst e;omega;intro e;subst e;omega;have h2:=l8 B;simp only[iw]at h2;simp only[dz,iw];omega;intro e;subst e;omega;have CJ:(jf.length+new.length)*bytes<=140737488355328:=g;have hf:(Builtin.firstCells l jf.length (.slice (some ⟨b,off,none⟩) jf.length cap)).run P w.drew=.ok O.toArray w.drew:=
      run_firstCells_some w.drew l jf.length ⟨b,off,none⟩ jf.length cap O Xd (λj v hj=>by rw[nY,LP];exact C j v hj)
     obtain⟨Xe,c,E,Q,e3,e4⟩:=vP (ty:=ty) h (some ⟨b,off,none⟩) jf.length cap O hf Xd V new.length N I (by omega) CJ;rw[<-adV]at E Q;obtain⟨G',hA⟩:=M0 (w':=w.drew.alloc (.cells c e)) (cO:=cO) p S rfl rfl rfl lQ (sM M kD) (sM m ee) (sM L Y) (by rw[xg];exact q.append R) e3 Q e4;exact⟨_,_,G',E,hA⟩
    cases H
   cases H
  cases H
end Ax
