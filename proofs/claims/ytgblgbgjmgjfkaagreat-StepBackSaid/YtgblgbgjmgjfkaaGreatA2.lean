/- Part of a proof. -/
import Derived.Test.YtgblgbgjmgjfkaaGreatA1
import Derived.Laws.Tables
import Derived.Laws.Cells
import Derived.Laws.CopyRow
import Derived.Great.BuildSlice
import Derived.Laws.MakeOwn
import Derived.Carry
import Derived.Deep.Upon
import Derived.IntWalk

open List renaming length->Q
open Option renaming some->Z,none->K
open Bool renaming true->Y,false->X
open List renaming getElem?_eq_some_iff->aad,getElem?_take->abv,getElem?_drop->afw,map_cons->aaZ,mapM_cons->amf,getElem?_map->aaz,getElem?_eq_getElem->aae,getElem?_range->ahs,take_left'->apz,all_eq_true->aam,mem_of_mem_take->afy,mem_of_mem_drop->afz,eq_nil_of_length_eq_zero->aau,set_cons_zero->ah1,set_cons_succ->ajt,cons_append->abb,getElem?_append_left->aaj,append_nil->afB,getElem?_append_right->aak,flatten_cons->afk,length_append->aaq,length_cons->aaK,drop_drop->afC,getElem?_set->aaD,flatten_nil->aoT,replicate->aag,eq_of_mem_replicate->af3,mem_flatten->ahY,flatten_append->aj9,mem_map->aap,mem_iff_getElem->aav,getElem_mem->aah,getElem?_toArray->akS,size_toArray->ahm,mem_append->aaw,length_pos_iff->afr,nil_append->aeN
open Option renaming map_eq_some_iff->adM,map_none->akk,map_some->afs
open Nat renaming add_mul->ajx,le_refl->aal,zero_mul->aoP,zero_add->afZ,succ_mul->afY,mul_le_mul_right->aeb
open Bool renaming and_eq_true->E6
open Array renaming toList_extract->aj5,toList_map->ane,getElem?_eq_some_iff->aaA,getElem?_push->aoc,size_push->apC,range->aof,size_append->amM
namespace Ax
open Go
variable {P:Program}{w:World}{G:bT}{β:List wj}{ρ:Operand->Value}{o:Oper}
theorem sW{c:Call}{x y}(h:c.args.toList=[x,y]):c.args = #[x,y]:=by
 have:=congrArg List.toArray h;simpa using this
theorem aqi{c}(z:o.op=.call c)(h:c.callee=.builtin .max){x y}(g:c.args.toList=[x,y]){k a b}(H:bJ w G (.int k a) (ρ x))(l:bJ w G (.int k b) (ρ y)):(execOp ρ o).run P w=.ok (.value (.int k (if b > a then b else a))) w:=by
 simp only[execOp,z,resolve,h,cq,Sem.run_pure,dA,invoke,builtin,sW g];simp[Builtin.max_,Builtin.max2,H.jg,l.jg]
theorem aqj{c}(z:o.op=.call c)(h:c.callee=.builtin .min){x y}(g:c.args.toList=[x,y]){k a b}(H:bJ w G (.int k a) (ρ x))(l:bJ w G (.int k b) (ρ y)):(execOp ρ o).run P w=.ok (.value (.int k (if b<a then b else a))) w:=by
 simp only[execOp,z,resolve,h,cq,Sem.run_pure,dA,invoke,builtin,sW g];simp[Builtin.min_,Builtin.min2,H.jg,l.jg]
theorem Ed{x}(z:o.op=.nilCheck x){a}(l:ρ x=.pointer (Z a)):(execOp ρ o).run P w=.ok (.value (ρ x)) w:=by
 simp only[execOp,z,l];rfl
theorem X7{x i}(z:o.op=.extract x i){vs v}(p:vs[i]?=Z v)(H:bJ w G (.fC vs) (ρ x)):
  ∃u,(execOp ρ o).run P w=.ok (.value u) w/\bJ w G v u/\∀b,iI b v u<=iI b (.fC vs) (ρ x):=by
 generalize h:ρ x=k at H;cases H with
 |fC _ U j N=>
  have g:i<Q vs:=(aad.1 p).1;have l:i<U.size:=by omega
  refine⟨U[i],?_,N i v U[i] p (by simp[l]),λb=>?_⟩;simp only[execOp,z,h];simp[Instr.extract,l];simp only[iI];exact BF b vs U.toList i v U[i] p (by simp[l])
theorem wG{C r k n}(h:cut C k n=Z r):r=(C.drop k).take n/\k+n<=Q C/\Q r=n:=by
 unfold cut at h;split at h;cases h;exact⟨rfl,by assumption,by simp;omega⟩;cases h
theorem Ee{t b}(h:rQ P t=Z b)(w):(isAgg t).run P w=.ok b w:=by
 unfold rQ at h;split at h;rename_i g;cases h;simp[isAgg,ct g];rename_i g;cases h;simp[isAgg,ct g];rename_i d H j g;cases h;cases d<;>simp_all [isAgg,ct g];cases h
theorem IV{agg r v}(h:bO agg r=Z v){g}(l:dm w G r g):
  ∃u,(if agg then .agg g.toArray else g.headD undef)=u/\bJ w G v u/\(∀b,iI b v u=cV b r g)/\(agg=X->∃c x,r=[c]/\g=[x]/\v=c/\u=x):=by
 refine⟨_,rfl,?_⟩;unfold bO at h;cases agg with
 |true=>
  simp only[bz,bE]at h;subst h;refine⟨.agg _ _ (by simpa using l.1) λi c v H p=>l.2 i c v H (by simpa using p),λb=>by simp[iI],by simp⟩
 |false=>
  simp only[Bool.false_eq_true,bC]at h;split at h;rename_i c;cases h;match g,l with
  |[x],l=>exact⟨l.2 0 v x rfl rfl,λb=>by simp[cV],λ_=>⟨v,x,rfl,rfl,rfl,rfl⟩⟩|[],l=>simp[dm]at l|_::_::_,l=>simp[dm]at l
  cases h
theorem afS(vs:Array Value)(off n):vs.extract off (off+n)=((vs.toList.drop off).take n).toArray:=by
 apply Array.ext';simp[aj5,List.extract]
theorem afT{t x f}(L:o.op=.field t x f){fs F}(M:P.underlying t=Z (.struct fs))(D:fs[f]?=Z F){off n agg}(g:F.offset=off)(J:dD P F.type n=Y)(T:rQ P F.type=Z agg){C r v}(B:cut C off n=Z r)(O:bO agg r=Z v)(k:bJ w G (.agg C) (ρ x)):∃u,(execOp ρ o).run P w=.ok (.value u) w/\bJ w G v u/\∀b,iI b v u<=iI b (.agg C) (ρ x):=by
 generalize R:ρ x=xv at k;cases k with
 |agg _ vs l N=>
  obtain⟨rfl,I,m⟩:=wG B;have s:dm w G C vs.toList:=⟨by simpa using l,λi c v H j=>N i c v H (by simpa using j)⟩;have z:=(s.drop off).take n;obtain⟨u,h,H,j,q⟩:=IV O z;refine⟨u,?_,H,λb=>?_⟩;simp only[execOp,L,R];simp only[Instr.field,cq,ct M,dA,D,asAgg,Sem.run_pure,part,Ee T,g];cases agg with
  |true=>
   simp only[bz]at h;subst h;simp[fW J,afS]
  |false=>
   obtain⟨c,y,e1,E,e3,p⟩:=q rfl;have S:vs[off]?=Z y:=by
    have:=congrArg (·[0]?) E;simp only[abv,afw]at this;split at this;simpa using this;simp at this
   simp[S,p]
  rw[j];simp only[iI];have U:=X6 b n (C.drop off) (vs.toList.drop off) (by simp;omega);have W:=CO b off C vs.toList (by simpa using l);omega
theorem NI{place}:∀ps g vs zero C z,kV zero g vs=Z C->dm w G zero z.toList->
  dm w G vs (ps.map (·.2))->(∀(i:Nat) p q,ps[i]?=Z p->g[i]?=Z q->place p.1=Z q)->
  ∃cells,Instr.fill place z ps=Z cells/\dm w G C cells.toList/\∀b,cV b C cells.toList<=cV b zero z.toList+cV b vs (ps.map (·.2))
 |[],g,vs,zero,C,z,h,l,k,t=>by
  cases vs with
  |nil=>
   cases g with
   |nil=>simp[kV]at h;subst h;exact⟨z,rfl,l,λb=>by omega⟩|cons q g=>simp[kV]at h
  |cons v vs=>simp[dm]at k
 |p::ps,g,vs,zero,C,z,h,l,k,t=>by
  cases vs with
  |nil=>simp[dm]at k|cons v vs=>
   cases g with
   |nil=>simp[kV]at h|cons q g=>
    obtain⟨off,n⟩:=q;simp only[kV]at h;split at h;rename_i B;simp only[E6,aC]at B;obtain⟨T,F⟩:=B;have D:=t 0 p (off,n) rfl rfl;have y:bJ w G v p.2:=k.2 0 v p.2 rfl rfl;obtain⟨H,L⟩:=y.cells;have O:p.2.cells.size=n:=(by have:=H.1;simp at this;omega);have S:z.size=Q zero:=(by have:=l.1;simp at this;omega);have m:=Tw off p.2.cells.toList z (by simp;omega);have J:dm w G (aB zero off v.cells) (aB z.toList off p.2.cells.toList):=l.aB H (by omega);have E:dm w G vs (ps.map (·.2)):=⟨by have:=k.1;simpa using this,λi c x r s=>k.2 (i+1) c x (by simpa using r) (by simpa using s)⟩;have step:Instr.fill place z (p::ps)=Instr.fill place (p.2.cells.zipIdx.foldl (λC (c,j)=>C.setIfInBounds (off+j) c) z) ps:=by
     obtain⟨pi,pv⟩:=p;simp only[Instr.fill];rw[D];simp only;rw[U (by simp at O ⊢;omega)]
    simp only[Array.toArray_toList]at m;obtain⟨cells,I,M,N⟩:=NI ps g vs (aB zero off v.cells) C _ h (by rw[m];exact J) E (λi p q r s=>t (i+1) p q (by simpa using r) (by simpa using s));refine⟨cells,step.trans I,M,λb=>?_⟩;have R:=N b;rw[m]at R;have W:=wF b zero v.cells z.toList p.2.cells.toList off l.1 H.1 (by omega);have h5:=L b;simp only[aaZ,cV];omega;cases h
theorem HF{fs}:∀{ps:List _}{g:List _},wE P fs ps g=Y->Q ps=Q g/\
  ∀(i:Nat) p q,ps[i]?=Z p->g[i]?=Z q->∃f,fs[p.1]?=Z f/\f.offset=q.1/\dD P f.type q.2=Y
 |[],[],_=>⟨rfl,λi p q h _=>by simp at h⟩
 |(j,x)::ps,(off,n)::g,h=>by
  simp only[wE,E6]at h;obtain⟨H,m⟩:=h;obtain⟨E,r⟩:=HF m;refine⟨by simp[E],λi p q k l=>?_⟩;cases i with
  |zero=>
   simp at k l;subst k;subst l;split at H;rename_i f s;simp only[E6,cJ]at H;exact⟨f,s,H.1,H.2⟩;cases H
  |succ i=>exact r i p q (by simpa using k) (by simpa using l)
 |[],_::_,h=>by simp[wE]at h|_::_,[],h=>by simp[wE]at h
theorem pQ{t zero}(h:sV P t zero=Y)(w G):
  ∃i z,P.info? t=Z i/\i.zero=Z z/\dm w G zero z.cells.toList/\(∀c∈zero,c.dw=Y/\c.aH=Y)/\AV.bG zero=Y:=by
 unfold sV at h;split at h;rename_i i H;split at h;rename_i z g;simp only[E6]at h;obtain⟨E,r,l⟩:=EM w G h.1;exact⟨i,z,H,g,⟨E,r⟩,l,h.2⟩;cases h;cases h
theorem afU{t parts}(ho:o.op=.build t parts){fs}(hu:P.underlying t=Z (.struct fs)){is}(n:fs.toList.mapM (λf=>P.info? f.type)=Z is){zero N}(hz:sV P t zero=Y)(hp:wE P fs parts.toList N=Y){vs C}(F:kV zero N vs=Z C)(hv:dm w G vs (parts.toList.map λp=>ρ p.2)):∃u,(execOp ρ o).run P w=.ok (.value u) w/\bJ w G (.agg C) u/\∀b,iI b (.agg C) u<=cV b vs (parts.toList.map λp=>ρ p.2):=by
 obtain⟨i,z,hi,J,M,T,_⟩:=pQ hz w G;obtain⟨Qa,L⟩:=HF hp;have D:fs.toList.mapM (λf=>(P.info? f.type).map λi=>(f.offset,i.size))=Z (List.zipWith (λf i=>(f.offset,i.size)) fs.toList is)/\Q fs.toList=Q is/\∀(k:Nat) f j,fs.toList[k]?=Z f->is[k]?=Z j->P.info? f.type=Z j:=by
  generalize fs.toList=l at n;induction l generalizing is with
  |nil=>simp at n;subst n;exact⟨rfl,rfl,λk f j h _=>by simp at h⟩|cons f l ih=>
   rw[amf]at n;simp only[bind,Option.bind_eq_some_iff,pure,bE]at n;obtain⟨j,y,is',E,rfl⟩:=n;obtain⟨U,W,a3⟩:=ih E;refine⟨?_,by simp[W],λk g j' H m=>?_⟩;rw[amf,U];simp[y];cases k with
   |zero=>simp at H m;subst H;subst m;exact y|succ k=>simp at H m;exact a3 k g j' H m
 obtain⟨hm,s,B⟩:=D;have O:(parts.map λ(x:Nat×Operand)=>(x.1,ρ x.2)).toList.map (·.2)=parts.toList.map λp=>ρ p.2:=by simp[Function.comp_def]
 obtain⟨cells,e1,S,e3⟩:=NI (place:=((List.zipWith (λ(f:Field) (i:TypeInfo)=>(f.offset,i.size)) fs.toList is).toArray[·]?)) (parts.map λ(x:Nat×Operand)=>(x.1,ρ x.2)).toList N vs zero C z.cells F M
  (by rw[O];exact hv) (by
   intro k p q H m;simp only[ane,aaz,adM]at H;obtain⟨r,H,rfl⟩:=H;obtain⟨f,g1,g2,g3⟩:=L k r q H m;obtain⟨j,g4,g5,_⟩:=oR g3;have I:fs.toList[r.1]?=Z f:=(by simpa using g1);have y:is[r.1]?=Z j:=by
    have R:r.1<Q is:=(by rw[<-s];exact(aad.1 I).1);have:=B r.1 f is[r.1] I (aae R);rw[g4]at this;cases this;exact aae R
   simp[List.getElem?_zipWith,I,y,g2,g5])
 have hb:P.built t (parts.map λ(x:Nat×Operand)=>(x.1,ρ x.2)).toList=Z cells:=by
  unfold Program.built;rw[hi,hu];simp only[J,hm];exact e1
 refine⟨.agg cells,?_,.agg _ _ (by simpa using S.1) λi c v H m=>S.2 i c v H (by simpa using m),λb=>?_⟩;simp only[execOp,ho,cq];have:=run_build w t (parts.map λ(x:Nat×Operand)=>(x.1,ρ x.2)) cells hb;simp only[this,dA,Sem.run_pure];have H:=e3 b;have m:cV b zero z.cells.toList=0:=fD b _ _ ((dG zero).2 λc F=>(T c F).1);rw[O]at H;simp only[iI];omega
end Ax
namespace Ax
open Go
variable {P:Program}{w:World}{G:bT}{β:List wj}{ρ:Operand->Value}{o:Oper}
theorem oU(b off n):(⟨b,off,K⟩:Addr).add n=⟨b,off+n,K⟩:=by
 unfold Addr.add;split<;>simp_all
theorem Qp{t f fs F i}(k:P.underlying t=Z (.struct fs))(g:fs[f]?=Z F)(h:P.info? F.type=Z i)(j:i.size≠0)(a w):
  (Instr.fieldAt t (.pointer (Z a)) f).run P w=.ok (.pointer (Z (a.add F.offset))) w:=by
 have H:P.cellsOf F.type≠0:=by simp[Program.cellsOf,h,j]
 simp[Instr.fieldAt,ct k,g,Instr.sureAddr,fieldPlace,run_sizeOf w h,H]
theorem BH{t x f}(z:o.op=.fieldAddr t x f){fs F i}(g:P.underlying t=Z (.struct fs))(H:fs[f]?=Z F)(h:P.info? F.type=Z i)(j:i.size≠0){a}(l:ρ x=.pointer (Z a)):(execOp ρ o).run P w=.ok (.value (.pointer (Z (a.add F.offset)))) w:=by
 simp only[execOp,z,l,cq,Qp g H h j,dA,Sem.run_pure]
theorem DQ{p v off q}(h:bJ w G p v)(n:(∃id D i k,p=.ptr id D i k/\q=.ptr id D i (k+off))\/(∃sz rows i k,p=.uL sz rows i k/\q=.uL sz rows i (k+off))):
  ∃a,v=.pointer (Z a)/\bJ w G q (.pointer (Z (a.add off))):=by
 rcases n with⟨id,D,i,k,rfl,rfl⟩|⟨sz,rows,i,k,rfl,rfl⟩;cases h with
 |ptr _ _ _ _ _ loc m l s B=>
  obtain⟨a,rfl⟩:=m;refine⟨a,rfl,.ptr _ _ _ _ _ loc ⟨_,rfl⟩ l s λe=>?_⟩;obtain⟨g,H,j⟩:=B e;cases j;exact⟨g,H,by rw[oU];congr 3;omega⟩
 cases h with
 |uL _ _ _ _ a cap r=>
  refine⟨_,rfl,?_⟩;rw[oU];have:=bJ.uL (w:=w) (G:=G) sz rows i (k+off) a cap r;rw[show a.off+(i*sz+k)+off=a.off+(i*sz+(k+off)) by omega];exact this
theorem HH{t e s}(g:P.underlying t=Z (.slice e))(O:dD P e s=Y){a}{len cap:Nat}{i:Int}(B:0<=i)(h:i<len)(w):
  (Instr.indexAt t (.slice (Z a) len cap) (.int .i64 i)).run P w=.ok (.pointer (Z (a.add (i.toNat*s)))) w:=by
 simp[Instr.indexAt,ct g,asIntOf,fW O,B,h]
theorem Qq{t e x y sz}(D:o.op=.indexAddr t x y)(E:P.underlying t=Z (.slice e))(O:dD P e sz=Y){st}(hI:mH w G st){a i n L S r}(h:bD 0 0 (.indexAddr sz) [.val a,.val (.int .i64 i)] st n=Z (r,S,L))(j:bJ w G a (ρ x))(I:ρ y=.int .i64 i):
  S=st/\L=n/\∃p u,r=.val p/\(execOp ρ o).run P w=.ok (.value u) w/\bJ w G p u/\p.dw=Y:=by
 have pure:∀(s:Nat) (rows:List (List AV)) (v:Value),bJ w G (.eE s rows) v->ρ x=v->s=sz->0<=i->i<Q rows->
   ∃u,(execOp ρ o).run P w=.ok (.value u) w/\bJ w G (.uL sz rows i.toNat 0) u:=by
  intro s rows v m z l B g;subst l;have W:=m;cases m with
  |eE _ _ a cap R iK=>
   refine⟨_,?_,.uL _ rows i.toNat 0 a cap W⟩;simp only[execOp,D,z,I,cq,HH E O B (by exact_mod_cast g),dA,Sem.run_pure];obtain⟨b,off,T⟩:=a;simp only at R;subst R;rw[oU];simp
 simp only[bD]at h;split at h<;>try (cases h;done)
 rename_i s rows;split at h;rename_i H;cases h;simp only[E6,aC]at H;obtain⟨u,g,k⟩:=pure s rows _ j rfl H.1.1 H.1.2 H.2;exact⟨rfl,rfl,_,u,rfl,g,k,rfl⟩;cases h;rename_i s rows;split at h;rename_i H;cases h;simp only[E6,aC]at H;obtain⟨u,g,k⟩:=pure s rows _ j.aj rfl H.1.1 H.1.2 H.2;exact⟨rfl,rfl,_,u,rfl,g,k,rfl⟩;cases h;rename_i id di;split at h;rename_i v s rows iX;split at h;rename_i H;cases h;simp only[E6,aC]at H;obtain⟨⟨⟨NK,l⟩,B⟩,g⟩:=H;subst NK;subst l;obtain⟨loc,q,Qn⟩:=hI.loc iX;obtain⟨Gy,HI,J⟩:=Qn;generalize z:ρ x=xv at j;cases j with
 |mu _ _ _ M hp U m he=>
  rw[q]at U;cases U;have F:=he HI.symm;rcases J.uQ with⟨_,uo,_⟩|⟨b,off,c,e',N,iK,ir,hle,C,kJ,fU⟩;subst uo;simp at g;omega;rw[N,J.len]at F;refine⟨rfl,rfl,_,_,rfl,?_,.ptr id v i.toNat 0 _ loc ⟨_,rfl⟩ q (by omega) λ_=>⟨_,N,rfl⟩,rfl⟩;simp only[execOp,D,z,F,I,cq,HH E O B g,dA,Sem.run_pure];rw[oU,J.size];simp
 cases h;cases h
theorem afW{t x y}(z:o.op=.index t x y)(g:P.underlying t=Z .string){s i b}(B:0<=i)(l:s[i.toNat]?=Z b)(H:bJ w G (.str s) (ρ x))(m:ρ y=.int .i64 i):
  (execOp ρ o).run P w=.ok (.value (.int .u8 b.toNat)) w:=by
 obtain⟨S,h,rfl⟩:=H.qK;have j:S[i.toNat]?=Z b:=by
  have R:i.toNat<S.size:=by have:=(aad.1 l).1;simpa using this
  have n:S.data[i.toNat]?=Z b:=by simpa using l
  have e:S[i.toNat]?=S.data[i.toNat]?:=rfl;rw[e];exact n
 simp only[execOp,z,h,m,cq];simp[Instr.index,ct g,asIntOf,B,j]
theorem Qr{st}(hI:mH w G st){p v n C}(H:gP st p n=Z C)(M:bJ w G p v):
  ∃b off xs,v=.pointer (Z ⟨b,off,K⟩)/\Q xs=n/\dm w G C xs/\∀j x,xs[j]?=Z x->w.cell? ⟨b,off+j,K⟩=Z x:=by
 have build:∀(r:List AV) (k b off:Nat),cut r k n=Z C->(∀(j:Nat) c,r[j]?=Z c->∃x,w.cell? ⟨b,off+j,K⟩=Z x/\bJ w G c x)->
   ∃xs:List Value,Q xs=n/\dm w G C xs/\∀(j:Nat) x,xs[j]?=Z x->w.cell? ⟨b,off+k+j,K⟩=Z x:=by
  intro r k b off q S;obtain⟨rfl,z,s⟩:=wG q;refine⟨(List.range n).map λj=>(w.cell? ⟨b,off+k+j,K⟩).getD undef,by simp,⟨by simp;omega,λj c x g m=>?_⟩,λj x h=>?_⟩;rw[abv]at g;split at g;rw[afw]at g;obtain⟨y,E,t⟩:=S _ c g;simp only[aaz,adM]at m;obtain⟨J,l,rfl⟩:=m;have:J=j:=by
   rw[ahs (by assumption)]at l;simpa using l.symm
  subst this;rw[show off+k+J=off+(k+J) by omega,E];exact t;cases g;simp only[aaz,adM]at h;obtain⟨J,l,rfl⟩:=h;have hj:j<n:=by
   have:=(aad.1 l).1;simpa using this
  have:J=j:=by
   rw[ahs hj]at l;simpa using l.symm
  subst this;have bK:k+J<Q r:=by omega
  obtain⟨y,E,t⟩:=S (k+J) r[k+J] (aae bK);rw[show off+k+J=off+(k+J) by omega,E]
  rfl
 unfold gP at H;split at H;rename_i id di i k;split at H;rename_i ve sz rows iX;split at H;rename_i U;subst U;split at H;rename_i r I;obtain⟨loc,hl,Gy,T,F⟩:=hI.loc iX;cases M with
 |ptr _ _ _ _ _ N hpp R hv he=>
  rw[hl]at R;cases R;obtain⟨a,O,rfl⟩:=he T.symm;rcases F.uQ with⟨_,uo,_⟩|⟨b,off,c,e',W,iK,ir,z,s,kJ,fU⟩;subst uo;simp at I;rw[W]at O;cases O;obtain⟨xs,g,m,l⟩:=build r k b (off+i*sz) H (λj c q=>by
   obtain⟨x,E,t⟩:=F.cell fU i r j c I q;exact⟨x,by rw[show off+i*sz+j=off+(i*sz+j) by omega];exact E,t⟩)
  refine⟨b,off+(i*sz+k),xs,by rw[F.size],g,m,λj x D=>?_⟩;rw[show off+(i*sz+k)+j=off+i*sz+k+j by omega];exact l j x D
 cases H;cases H;cases H;rename_i sz rows i k;split at H;rename_i r I;cases M with
 |uL _ _ _ _ a cap hs=>
  cases hs with
  |eE _ _ _ _ oQ iK cF eC tQ DO q B=>
   obtain⟨xs,g,m,l⟩:=build r k a.block (a.off+i*sz) H (λj c L=>by
    obtain⟨_,x,E⟩:=q i r j c I L;exact⟨x,by rw[show a.off+i*sz+j=a.off+(i*sz+j) by omega];exact E,B i r j c x I L E⟩)
   refine⟨a.block,a.off+(i*sz+k),xs,rfl,g,m,λj x D=>?_⟩;rw[show a.off+(i*sz+k)+j=a.off+i*sz+k+j by omega];exact l j x D
 cases H;cases H
theorem JK{t n agg}(l:dD P t n=Y)(T:rQ P t=Z agg){b off}{g:List Value}(m:Q g=n)(q:agg=X->n=1)(H:∀j x,g[j]?=Z x->w.cell? ⟨b,off+j,K⟩=Z x):
  (Instr.loadAt t (.pointer (Z ⟨b,off,K⟩))).run P w=.ok (if agg then .agg g.toArray else g.headD undef) w:=by
 cases agg with
 |true=>
  have:=run_loadCells_list (P:=P) w ⟨b,off,K⟩ g (λj v h=>by rw[oU];exact H j v h);rw[m]at this;simp[Instr.loadAt,Instr.sureAddr,loadVar,Ee T,fW l,this]
 |false=>
  match g,m,q rfl with
  |[x],_,_=>
   have:=H 0 x rfl;simp only[Nat.add_zero]at this;simp[Instr.loadAt,Instr.sureAddr,loadVar,Ee T,this]
  |[],h,k=>simp at h;omega|_::_::_,h,k=>simp at h;omega
theorem dm.aj{as xs}(h:dm w G as xs):dm w G (AV.cP as) xs:=by
 refine⟨by rw[rP];exact h.1,λi c v H p=>?_⟩;rw[CJ]at H;simp only[adM]at H;obtain⟨C,g,rfl⟩:=H;exact(h.2 i C v g p).aj
theorem NN{t x n agg}(z:o.op=.load t x)(k:dD P t n=Y)(T:rQ P t=Z agg)(r:agg=X->n=1){b off xs C v}(q:ρ x=.pointer (Z ⟨b,off,K⟩))(m:Q xs=n)(s:dm w G C xs)(g:∀j y,xs[j]?=Z y->w.cell? ⟨b,off+j,K⟩=Z y)(p:bO agg C=Z v):
  ∃u,(execOp ρ o).run P w=.ok (.value u) w/\bJ w G v u/\∀d,iI d v u=cV d C xs:=by
 obtain⟨u,l,h,H,_⟩:=IV p s;refine⟨u,?_,h,H⟩;simp only[execOp,z,q,cq,JK k T m r g,dA,Sem.run_pure,l]
theorem Tz{f first O}(g:f<100000)(z:o.op=.makeFunc (.func f) first O){vs}(p:dm w G vs ((first.toList++O.toList).map ρ)):
  (execOp ρ o).run P w=.ok (.value (.func (.func f) (first.map ρ) (O.map ρ))) w/\
   bJ w G (.fn f (AV.cP (vs.take first.size)) (AV.cP (vs.drop first.size))) (.func (.func f) (first.map ρ) (O.map ρ)):=by
 refine⟨by simp only[execOp,z,cq];rfl,?_⟩;have h:=(p.take first.size).aj;have H:=(p.drop first.size).aj;rw[List.map_append]at h H;rw[apz (by simp)]at h;rw[List.drop_left' (by simp)]at H;refine .fn f _ _ _ _ (by simpa using h.1) (by simpa using H.1) ⟨jr _,jr _,g⟩ (λi c v E r=>h.2 i c v E ?_) (λi c v E r=>H.2 i c v E ?_);simpa using r;simpa using r
end Ax
namespace Ax
open Go
variable {P:Program}{w:World}{G:bT}{β:List wj}{ρ:Operand->Value}{o:Oper}
def Ef(ρ:Operand->Value)(x:Option Operand)(g a:Int):Prop:=(x=K/\a=g)\/∃y,x=Z y/\ρ y=.int .i64 a
theorem rR{i:Int}{y:Nat}{c}(B:0<=i)(h:i<=y)(w):(Instr.sliceBound (.int .i64 i) y c).run P w=.ok i.toNat w:=by
 simp[Instr.sliceBound,asIntOf,B,h]
theorem nY{DK}{len cap:Nat}{lo hi a b}(k:Ef ρ lo 0 a)(l:Ef ρ hi len b)(B:0<=a)(H:a<=b)(g:b<=cap)(w):
  (Instr.sliceBounds DK len cap (lo.map ρ) (hi.map ρ) K).run P w=.ok (a.toNat,b.toNat,cap) w:=by
 rcases k with⟨rfl,rfl⟩|⟨y,rfl,m⟩<;>rcases l with⟨rfl,rfl⟩|⟨z,rfl,j⟩
 simp[Instr.sliceBounds];simp[Instr.sliceBounds,j,rR (by omega:(0:Int)<=b) g];simp[Instr.sliceBounds,m,rR B H];have h:((b.toNat:Nat):Int)=b:=by omega
 simp[Instr.sliceBounds,m,j,rR (by omega:(0:Int)<=b) g,rR B (by rw[h];exact H)]
theorem TA{t x L h}(z:o.op=.slice t x L h K)(n:P.underlying t=Z .string){s a b}(p:bJ w G (.str s) (ρ x))(k:Ef ρ L 0 a)(l:Ef ρ h (Q s) b)(B:0<=a)(g:a<=b)(H:b<=Q s):
  ∃u,(execOp ρ o).run P w=.ok (.value u) w/\bJ w G (.str ((s.take b.toNat).drop a.toNat)) u:=by
 obtain⟨S,j,rfl⟩:=p.qK;have m:Q S.data.toList=S.size:=by simp
 rw[m]at l H;refine⟨.string (S.extract a.toNat b.toNat),?_,.str _ _ ?_⟩;simp only[execOp,z,j,cq];simp[Instr.sliceAt,Instr.slice,ct n,nY k l B g H];rw[ByteArray.data_extract,aj5];simp only[List.extract];rw[List.drop_take]
theorem Ya{s rows}(h:cy s rows=Y)(n m):cy s ((rows.take n).drop m)=Y:=by
 simp only[cy,aam]at h ⊢;exact λr H=>h r (afy (afz H))
theorem VD{rows:List (List AV)}{n m i r}(h:((rows.take n).drop m)[i]?=Z r):rows[m+i]?=Z r:=by
 rw[afw,abv]at h;split at h;exact h;cases h
theorem afX{s rows a len cap}(h:bJ w G (.eE s rows) (.slice (Z a) len cap)){lo hi}(p:lo<=hi)(q:hi<=Q rows):
  len=Q rows/\Q rows<=cap/\bJ w G (.eE s ((rows.take hi).drop lo)) (.slice (if cap=lo then Z a else Z (a.add (lo*s))) (hi-lo) (cap-lo)):=by
 cases h with
 |eE _ _ _ _ R O F x t D k H=>
  refine⟨rfl,O,?_⟩;have m:Q ((rows.take hi).drop lo)=hi-lo:=by simp;omega
  have L:∀r∈(rows.take hi).drop lo,r∈rows:=λr H=>afy (afz H);have y:a.add (lo*s)=⟨a.block,a.off+lo*s,K⟩:=by
   obtain⟨b,off,T⟩:=a;simp only at R;subst R;exact oU _ _ _
  split;rename_i n;have:(rows.take hi).drop lo=[]:=by apply aau;omega
  rw[this];have B:hi-lo=Q ([]:List (List AV)):=by simp;omega
  rw[B];exact .eE _ _ a _ R (by simp) (by simp[cy]) (by simp) (by simp) (by simp) (λi r j c h _=>by simp at h) (λi r j c v h _=>by simp at h);rw[<-m];refine .eE _ _ _ _ (by rw[y]) (by omega) (Ya F _ _) (λr h=>x r (L r h)) (λr h=>t r (L r h)) (λr h=>D r (L r h)) (λi r j c E g=>?_) (λi r j c v E g l=>?_);have:=k _ r j c (VD E) g;rw[y];simp only;rw[show a.off+lo*s+(i*s+j)=a.off+((lo+i)*s+j) by rw[ajx];omega];exact this;rw[y]at l;simp only at l;rw[show a.off+lo*s+(i*s+j)=a.off+((lo+i)*s+j) by rw[ajx];omega]at l;exact H _ r j c v (VD E) g l
theorem JL{t e x lo hi}(n:o.op=.slice t x lo hi K)(q:P.underlying t=Z (.slice e)){s}(O:dD P e s=Y){rows a b}(l:bJ w G (.eE s rows) (ρ x))(j:Ef ρ lo 0 a)(k:Ef ρ hi (Q rows) b)(B:0<=a)(H:a<=b)(C:b<=Q rows):
  ∃u,(execOp ρ o).run P w=.ok (.value u) w/\bJ w G (.eE s ((rows.take b.toNat).drop a.toNat)) u:=by
 have r:=l;generalize z:ρ x=v at l;have p:∃g len cap,v=.slice (Z g) len cap:=by cases l;exact⟨_,_,_,rfl⟩
 obtain⟨g,len,cap,rfl⟩:=p;obtain⟨E,y,h⟩:=afX l (lo:=a.toNat) (hi:=b.toNat) (by omega) (by omega);subst E;refine⟨_,?_,h⟩;simp only[execOp,n,z,cq];simp only[Instr.sliceAt,cq,ct q,dA,Instr.slice,akk,nY j k B H (by omega:b<=(cap:Int)),fW O,Sem.run_pure];by_cases m:cap=a.toNat<;>simp[m]
theorem JM{t e x l h M}(r:o.op=.slice t x l h M)(k:P.underlying t=Z (.slice e)){v}(O:dD P e v=Y)(m:bJ w G .aF (ρ x))(g:Ef ρ l 0 0)(j:Ef ρ h 0 0)(p:M=K\/∃z,M=Z z/\h.isSome=Y/\ρ z=.int .i64 0):
  (execOp ρ o).run P w=.ok (.value (.slice K 0 0)) w:=by
 generalize q:ρ x=B at m;cases m;simp only[execOp,r,q,cq];rcases p with rfl|⟨z,rfl,N,n⟩;have S:Ef ρ h ((0:Nat):Int) 0:=j;simp only[Instr.sliceAt,cq,ct k,dA,Instr.slice,akk,nY (len:=0) (cap:=0) g S (by omega) (by omega) (by simp),fW O,Sem.run_pure];simp;have key:(Instr.sliceBounds Y 0 0 (l.map ρ) (h.map ρ) (Z (ρ z))).run P w=.ok (0,0,0) w:=by
  rcases g with⟨rfl,_⟩|⟨y,rfl,s⟩<;>rcases j with⟨rfl,_⟩|⟨C,rfl,H⟩
  simp at N;simp[Instr.sliceBounds,n,H,Instr.sliceBound,asIntOf];simp at N;simp[Instr.sliceBounds,n,s,H,Instr.sliceBound,asIntOf]
 simp only[Instr.sliceAt,cq,ct k,dA,Instr.slice,afs,key,fW O,Sem.run_pure];simp
theorem HJ{t e x l h M}(s:o.op=.slice t x l h M)(m:P.underlying t=Z (.slice e)){B}(O:dD P e B=Y)(n:bJ w G .pP (ρ x))(j:Ef ρ l 0 0)(k:Ef ρ h 0 0)(r:M=K\/∃z,M=Z z/\h.isSome=Y/\ρ z=.int .i64 0):
  ∃u,(execOp ρ o).run P w=.ok (.value u) w/\bJ w G .pP u:=by
 generalize q:ρ x=C at n;obtain⟨g,rfl⟩:∃g,C=.slice (Z g) 0 0:=by cases n;exact⟨_,rfl⟩
 refine⟨_,?_,.pP g⟩;simp only[execOp,s,q,cq];rcases r with rfl|⟨z,rfl,N,p⟩;have S:Ef ρ h ((0:Nat):Int) 0:=k;simp only[Instr.sliceAt,cq,ct m,dA,Instr.slice,akk,nY (len:=0) (cap:=0) j S (by omega) (by omega) (by simp),fW O,Sem.run_pure];simp;have key:(Instr.sliceBounds Y 0 0 (l.map ρ) (h.map ρ) (Z (ρ z))).run P w=.ok (0,0,0) w:=by
  rcases j with⟨rfl,_⟩|⟨y,rfl,v⟩<;>rcases k with⟨rfl,_⟩|⟨D,rfl,H⟩
  simp at N;simp[Instr.sliceBounds,p,H,Instr.sliceBound,asIntOf];simp at N;simp[Instr.sliceBounds,p,v,H,Instr.sliceBound,asIntOf]
 simp only[Instr.sliceAt,cq,ct m,dA,Instr.slice,afs,key,fW O,Sem.run_pure];simp
theorem JN{t e x z l h}(p:o.op=.slice t x l h (Z z))(v:P.underlying t=Z (.slice e)){S s}(O:dD P e S=Y){rows}(j:bJ w G (.eE s rows) (ρ x))(m:Ef ρ l 0 0)(n:Ef ρ h (Q rows) 0)(N:h.isSome=Y)(k:ρ z=.int .i64 0):
  ∃u,(execOp ρ o).run P w=.ok (.value u) w/\bJ w G .pP u:=by
 generalize q:ρ x=C at j;have r:∃g len cap,C=.slice (Z g) len cap:=by cases j;exact⟨_,_,_,rfl⟩
 obtain⟨g,len,cap,rfl⟩:=r;refine⟨_,?_,.pP g⟩;have key:(Instr.sliceBounds Y len cap (l.map ρ) (h.map ρ) (Z (ρ z))).run P w=.ok (0,0,0) w:=by
  rcases m with⟨rfl,_⟩|⟨y,rfl,B⟩<;>rcases n with⟨rfl,_⟩|⟨D,rfl,H⟩
  simp at N;simp[Instr.sliceBounds,k,H,Instr.sliceBound,asIntOf];simp at N;simp[Instr.sliceBounds,k,B,H,Instr.sliceBound,asIntOf]
 simp only[execOp,p,q,cq];simp only[Instr.sliceAt,cq,ct v,dA,Instr.slice,afs,key,fW O,Sem.run_pure];simp
theorem run_checkKey{t kk}(H:um P t kk=Y)(b n v w):(Instr.checkKey b (n+1) t v).run P w=.ok () w:=by
 unfold um at H;cases kk<;>simp only at H<;>split at H<;>(try cases H);all_goals (rename_i g;simp[Instr.checkKey,ct g])
def Eg(w:World)(G:bT)(E:List (AV×AV))(fs:List MapEntry):Prop:=
 (Q fs)=Q E/\∀(i:Nat) k v e,E[i]?=Z (k,v)->fs[i]?=Z e->bJ w G k e.key/\bJ w G v e.val/\v.dw=Y/\k.dw=Y
theorem Eg.tail{x E f fs}(h:Eg w G (x::E) (f::fs)):Eg w G E fs:=
 ⟨by have:=h.1;simpa using this,λi k v e H g=>h.2 (i+1) k v e (by simpa using H) (by simpa using g)⟩
theorem zU{t d kk}(H:um P t kk=Y)(m:P.underlying t=Z d){a b x y r}(h:LQ kk a b=Z r)(g:bJ w G a x)(j:bJ w G b y):Instr.sameNow d x y=Z r:=by
 unfold LQ at h;split at h;cases h;rw[g.mR,j.mR];simp only[um,m]at H;split at H;rename_i n;cases n;rfl;cases H;split at h;rename_i k p l q v;cases h;subst v;rw[g.jg,j.jg];simp only[um,m]at H;split at H;rename_i n;cases n;simp[Instr.sameNow];cases H;cases h;cases h;obtain⟨s,rfl,rfl⟩:=g.qK;obtain⟨S,rfl,rfl⟩:=j.qK;simp only[um,m]at H;split at H;rename_i n;cases n;simp only[Instr.sameNow,bE];rw[beq_toListBytes,ByteArray.toList_eq,ByteArray.toList_eq];cases H;cases h
theorem zV{t d kk}(H:um P t kk=Y)(g:P.underlying t=Z d){k x}(m:bJ w G k x):∀E fs i r,
  Eg w G E fs->yW kk k E=Z r->∃q,Instr.findNow d x fs i=Z q/\
   (match r with
    |none=>q=K|some v=>∃j e,q=Z (i+j,e.val)/\fs[j]?=Z e/\bJ w G v e.val/\v.dw=Y)
 |[],[],i,r,_,h=>by simp[yW]at h;subst h;exact⟨K,rfl,rfl⟩|[],_::_,_,_,h,_=>by simp[Eg]at h|_::_,[],_,_,h,_=>by simp[Eg]at h|(a,v)::E,f::fs,i,r,p,h=>by
  obtain⟨n,D,F,_⟩:=p.2 0 a v f rfl rfl;simp only[yW]at h;split at h;rename_i B;cases h;exact⟨Z (i,f.val),by simp[Instr.findNow,zU H g B m n],0,f,rfl,rfl,D,F⟩;rename_i B;obtain⟨q,s,l⟩:=zV H g m E fs (i+1) r p.tail h;refine⟨q,by simp[Instr.findNow,zU H g B m n,s],?_⟩;cases r with
  |none=>exact l|some I=>
   obtain⟨j,e,y,z,C⟩:=l;exact⟨j+1,e,by rw[y,show i+1+j=i+(j+1) by omega],by simpa using z,C⟩
  cases h
theorem run_findKey{t kk}(H:um P t kk=Y){k x}(n:bJ w G k x){E fs r}(p:Eg w G E fs)(m:yW kk k E=Z r)(w'):
  ∃q,(Instr.findKey t x fs).run P w'=.ok q w'/\
   (match r with
    |none=>q=K|some v=>∃j e,q=Z (j,e.val)/\fs[j]?=Z e/\bJ w G v e.val/\v.dw=Y):=by
 have g:∃d,P.underlying t=Z d:=by
  unfold um at H;cases kk<;>simp only at H<;>split at H<;>(try cases H)<;>exact⟨_,by assumption⟩
 obtain⟨d,g⟩:=g;obtain⟨q,l,h⟩:=zV H g n E fs 0 r p m;refine⟨q,by simp[Instr.findKey,ct g,l],?_⟩;cases r with
 |none=>exact h|some v=>obtain⟨j,e,y,z⟩:=h;exact⟨j,e,by simpa using y,z⟩
theorem aaM{t kt J m k ok}(ho:o.op=.lookup t m k ok)(hu:P.underlying t=Z (.map kt J)){kk}(T:um P kt kk=Y){ie z}(S:P.info? J=Z ie)(hz:ie.zero=Z z){zero}(hzc:CM z zero=Y){st}(hI:mH w G st){am ak B}(oW:(am=.gR/\B=[])\/∃id,am=.map id/\st[id]?=Z (.map B)){r}(hf:yW kk ak B=Z r)(F:bJ w G am (ρ m))(hk:bJ w G ak (ρ k)):
  ∃u,(execOp ρ o).run P w=.ok (.value u) w/\bJ w G (if ok then .fC [r.getD zero,.bool r.isSome] else r.getD zero) u/\(r.getD zero).dw=Y:=by
 obtain⟨U,W,_⟩:=Ec hzc w G;have p:(zeroValue J).run P w=.ok z w:=by simp[zeroValue,typeInfo,S,hz]
 have two:∀(v:AV) (x:Value) (b:Bool),bJ w G v x->bJ w G (if ok then .fC [v,.bool b] else v) (if ok=Y then Value.tuple #[x,.bool b] else x):=by
  intro v x b hv;cases ok;exact hv;refine .fC _ _ rfl λi c y H D=>?_;match i with
  |0=>simp at H D;subst H;subst D;exact hv|1=>simp at H D;subst H;subst D;exact .bool _|i+2=>simp at H
 have mJ:∀(fs:Array MapEntry),Eg w G B fs.toList->∃x b,bJ w G (r.getD zero) x/\b=r.isSome/\(r.getD zero).dw=Y/\∃q,(Instr.findKey kt (ρ k) fs.toList).run P w=.ok q w/\((∃j,q=Z (j,x)/\b=Y)\/(q=K/\x=z/\b=X)):=by
  intro fs hM;obtain⟨q,E,s⟩:=run_findKey T hk hM hf w;cases r with
  |none=>exact⟨z,X,U,rfl,W,q,E,.inr ⟨s,rfl,rfl⟩⟩|some v=>
   obtain⟨j,e,g1,g2,C,L⟩:=s;exact⟨e.val,Y,C,rfl,L,q,E,.inl ⟨j,g1,rfl⟩⟩
 rcases oW with⟨rfl,rfl⟩|⟨id,rfl,iX⟩;generalize n:ρ m=mv at F;cases F;obtain⟨x,b,H,rfl,M,q,N,O⟩:=mJ #[] ⟨rfl,λi k v e h _=>by simp at h⟩;refine⟨_,?_,two _ _ _ H,M⟩;have g:=run_checkKey (w:=w) T (#[]:Array MapEntry).isEmpty 9999 (ρ k);simp only[execOp,ho,n,cq];simp only[Instr.lookup,cq,ct hu,dA,Sem.run_pure,g,N];rcases O with⟨j,rfl,l⟩|⟨rfl,rfl,l⟩;simp[l];simp[l,p];generalize n:ρ m=mv at F;obtain⟨loc,hl,Qn⟩:=hI.loc iX;cases F with
 |map _ loc' bk xE Gy sP=>
  rw[hl]at xE;cases xE;obtain⟨g1,g2,b0,I,clock,C,L,g5,g6,g7⟩:=Qn;rw[sP]at C;cases C;obtain⟨x,b,H,rfl,M,q,N,O⟩:=mJ I ⟨by simpa using g6,λi k v e E s=>g7 i k v e E (by simpa using s)⟩;refine⟨_,?_,two _ _ _ H,M⟩;have g:=run_checkKey (w:=w) T I.isEmpty 9999 (ρ k);have R:(getObj bk).run P w=.ok (.map I clock) w:=by simp[getObj,Sem.run,L]
  simp only[execOp,ho,n,cq];simp only[Instr.lookup,cq,ct hu,dA,Sem.run_pure,R,g,N];rcases O with⟨j,rfl,l⟩|⟨rfl,rfl,l⟩;simp[l];simp[l,p]
end Ax
namespace Ax
open Go
variable {P:Program}{w w':World}{G G':bT}{β:List wj}
def yD.lz(l:yD):Option Nat:=if l.cap=0 then K else l.a.map (·.block)
def iM(b:Nat):List (List AV)->List (List Value)->Nat
 |r::rs,x::xs=>cV b r x+iM b rs xs|_,_=>0
def kN(b:Nat)(loc:yD):iW->Nat
 |.rows _ _ rows=>(if loc.lz=Z b then 1 else 0)+iM b rows loc.vals|.map _=>if loc.lz=Z b then 1 else 0
def dh(b:Nat):List yD->List iW->Nat
 |l::L,o::st=>kN b l o+dh b L st|_,_=>0
def ja(b:Nat):List wj->List (List AV)->Nat
 |g::β,r::bx=>(if g.lz=Z b then 1 else 0)+cV b r g.vals+ja b β bx|_,_=>0
theorem CP(b):∀rs g (i:Nat) r x,rs[i]?=Z r->g[i]?=Z x->cV b r x<=iM b rs g
 |[],_,_,_,_,h,_=>by simp at h|_::_,[],_,_,_,_,h=>by simp at h|r::rs,x::g,0,R,j,h,k=>by simp at h k;subst h;subst k;simp only[iM];omega|r::rs,x::g,i+1,R,j,h,k=>by
  have:=CP b rs g i R j (by simpa using h) (by simpa using k);simp only[iM];omega
theorem y6(b):∀rs g i r x R j,rs[i]?=Z r->g[i]?=Z x->
  iM b (rs.set i R) (g.set i j)+cV b r x=iM b rs g+cV b R j
 |[],_,_,_,_,_,_,h,_=>by simp at h|_::_,[],_,_,_,_,_,_,h=>by simp at h|r::rs,x::g,0,l,m,R,j,h,k=>by simp at h k;subst h;subst k;simp only[ah1,iM];omega|r::rs,x::g,i+1,l,m,R,j,h,k=>by
  have:=y6 b rs g i l m R j (by simpa using h) (by simpa using k);simp only[ajt,iM];omega
theorem HK(b):∀rs g,(∀r∈rs,AV.fT r=Y)->iM b rs g=0
 |[],_,_=>by simp[iM]|_::_,[],_=>by simp[iM]|r::rs,x::g,h=>by
  simp only[iM,fD b r x (h r (by simp)),HK b rs g λR H=>h R (by simp[H])]
theorem rS(b):∀L st (i:Nat) l o,L[i]?=Z l->st[i]?=Z o->kN b l o<=dh b L st
 |[],_,_,_,_,h,_=>by simp at h|_::_,[],_,_,_,_,h=>by simp at h|l::L,o::st,0,g,O,h,k=>by simp at h k;subst h;subst k;simp only[dh];omega|l::L,o::st,i+1,g,O,h,k=>by
  have:=rS b L st i g O (by simpa using h) (by simpa using k);simp only[dh];omega
theorem Qs(b):∀L st (i j:Nat) l o r s,i≠j->L[i]?=Z l->st[i]?=Z o->L[j]?=Z r->st[j]?=Z s->kN b l o+kN b r s<=dh b L st
 |[],_,_,_,_,_,_,_,_,h,_,_,_=>by simp at h|_::_,[],_,_,_,_,_,_,_,_,h,_,_=>by simp at h|l::L,o::st,0,0,_,_,_,_,h,_,_,_,_=>bH rfl h|l::L,o::st,0,j+1,n,O,q,p,_,H,g,k,m=>by
  simp at H g;subst H;subst g;have:=rS b L st j q p (by simpa using k) (by simpa using m);simp only[dh];omega
 |l::L,o::st,i+1,0,n,O,q,p,_,H,g,k,m=>by
  simp at k m;subst k;subst m;have:=rS b L st i n O (by simpa using H) (by simpa using g);simp only[dh];omega
 |l::L,o::st,i+1,j+1,n,O,q,p,h,H,g,k,m=>by
  have:=Qs b L st i j n O q p (by omega) (by simpa using H) (by simpa using g) (by simpa using k) (by simpa using m);simp only[dh];omega
theorem BI(b):∀L st i l o g O,L[i]?=Z l->st[i]?=Z o->
  dh b (L.set i g) (st.set i O)+kN b l o=dh b L st+kN b g O
 |[],_,_,_,_,_,_,h,_=>by simp at h|_::_,[],_,_,_,_,_,_,h=>by simp at h|l::L,o::st,0,j,m,q,p,h,k=>by simp at h k;subst h;subst k;simp only[ah1,dh];omega|l::L,o::st,i+1,j,m,q,p,h,k=>by
  have:=BI b L st i j m q p (by simpa using h) (by simpa using k);simp only[ajt,dh];omega
theorem xP(b):∀g L st s,Q g=Q st->dh b (g++L) (st++s)=dh b g st+dh b L s
 |[],_,[],_,_=>by simp[dh]|[],_,_::_,_,h=>by simp at h|_::_,_,[],_,h=>by simp at h|l::g,L,o::st,s,h=>by
  simp only[abb,dh];rw[xP b g L st s (by simpa using h)];omega
theorem rT(b):∀β B (i:Nat) g r,β[i]?=Z g->B[i]?=Z r->(if g.lz=Z b then 1 else 0)+cV b r g.vals<=ja b β B
 |[],_,_,_,_,h,_=>by simp at h|_::_,[],_,_,_,_,h=>by simp at h|g::β,r::B,0,j,R,h,k=>by simp at h k;subst h;subst k;simp only[ja];omega|g::β,r::B,i+1,j,R,h,k=>by
  have:=rT b β B i j R (by simpa using h) (by simpa using k);simp only[ja];omega
theorem EP(b):∀β bx i g r j R,β[i]?=Z g->bx[i]?=Z r->
  ja b (β.set i j) (bx.set i R)+((if g.lz=Z b then 1 else 0)+cV b r g.vals)=ja b β bx+((if j.lz=Z b then 1 else 0)+cV b R j.vals)
 |[],_,_,_,_,_,_,h,_=>by simp at h|_::_,[],_,_,_,_,_,_,h=>by simp at h|g::β,r::bx,0,y,l,z,m,h,k=>by simp at h k;subst h;subst k;simp only[ah1,ja];omega|g::β,r::bx,i+1,y,l,z,m,h,k=>by
  have:=EP b β bx i y l z m (by simpa using h) (by simpa using k);simp only[ajt,ja];omega
theorem Qt(b):∀β B (i j:Nat) g r t R,i≠j->β[i]?=Z g->B[i]?=Z r->β[j]?=Z t->B[j]?=Z R->
  ((if g.lz=Z b then 1 else 0)+cV b r g.vals)+((if t.lz=Z b then 1 else 0)+cV b R t.vals)<=ja b β B
 |[],_,_,_,_,_,_,_,_,h,_,_,_=>by simp at h|_::_,[],_,_,_,_,_,_,_,_,h,_,_=>by simp at h|l::L,o::st,0,0,_,_,_,_,h,_,_,_,_=>bH rfl h|l::L,o::st,0,j+1,p,O,q,s,_,H,k,m,n=>by
  simp at H k;subst H;subst k;have:=rT b L st j q s (by simpa using m) (by simpa using n);simp only[ja];omega
 |l::L,o::st,i+1,0,p,O,q,s,_,H,k,m,n=>by
  simp at m n;subst m;subst n;have:=rT b L st i p O (by simpa using H) (by simpa using k);simp only[ja];omega
 |l::L,o::st,i+1,j+1,p,O,q,s,h,H,k,m,n=>by
  have:=Qt b L st i j p O q s (by omega) (by simpa using H) (by simpa using k) (by simpa using m) (by simpa using n);simp only[ja];omega
structure ER (w:World)(G:bT)(aK:List AV)(g:wj):Prop where
 yT:dm w G aK g.vals
 IU:AV.bG aK=true
 uQ:(g.lz=none/\aK=[])\/∃b c e,g.lz=some b/\w.heap[b]?=some (.cells c e (0,0))/\aK.length<=c.size/\G.qi b=some 0/\∀(k:Nat) x,g.vals[k]?=some x->w.cell? ⟨b,k,none⟩=some x
structure ny (w:World)(G:bT)(β:List wj)(bx:jM):Prop where
 len:β.length=bx.length
 box:∀(j:Nat) aK g,bx[j]?=some aK->β[j]?=some g->ER w G aK g
def fY(w:World)(G:bT)(w':World)(G':bT)(b:Nat):Prop:=G'.qi b=G.qi b/\w'.heap[b]?=w.heap[b]?
theorem vD{b o}(h:w'.heap[b]?=w.heap[b]?):w'.cell? ⟨b,o,K⟩=w.cell? ⟨b,o,K⟩:=by simp[World.cell?,h]
theorem ER.lY{j g}(h:ER w G j g)(hs:xO w G w' G')(l:∀b,0<(if g.lz=Z b then 1 else 0)+cV b j g.vals->fY w G w' G' b):ER w' G' j g where
 yT:=h.yT.mono hs λb s=>l b (by omega)
 IU:=h.IU
 uQ:=by
  rcases h.uQ with h|⟨b,c,e,H,n,p,q,O⟩;exact .inl h;obtain⟨m,a2⟩:=l b (by simp[H];omega);exact .inr ⟨b,c,e,H,a2.trans n,p,m.trans q,λk x r=>(vD a2).trans (O k x r)⟩
theorem uR.lY{O loc}(h:uR w G O loc)(s:xO w G w' G')(q:∀b,0<kN b loc O->fY w G w' G' b):uR w' G' O loc:=by
 cases O with
 |rows R sz rows=>
  obtain⟨n,p,l⟩:=h;refine⟨n,p,l.zR,l.IU,l.len,l.size,l.yE,λi r xs E g=>?_,?_⟩;refine(l.y5 i r xs E g).mono s λb H=>q b ?_;have:=CP b rows loc.vals i r xs E g;simp only[kN];omega;rcases l.uQ with h|⟨b,off,c,e,y,z,C,L,t,D,F⟩;exact .inl h;obtain⟨m,W⟩:=q b (by
   have:loc.lz=Z b:=by unfold yD.lz;rw[ah,y];rfl
   simp[kN,this];omega)
  exact .inr ⟨b,off,c,e,y,z,W.trans C,L,t,m.trans D,λi xs j x E g=>(vD W).trans (F i xs j x E g)⟩
 |map S=>
  obtain⟨n,p,b,B,clock,l,I,J,M,N⟩:=h;obtain⟨m,W⟩:=q b (by
   have:loc.lz=Z b:=by unfold yD.lz;rw[ah,l];rfl
   simp[kN,this])
  refine⟨n,p,b,B,clock,l,W.trans I,m.trans J,M,λi k v e E g=>?_⟩;obtain⟨y,z,C,L⟩:=N i k v e E g;exact⟨y.lY s λb H=>by rw[gW b k _ L]at H;omega,z.lY s λb H=>by rw[gW b v _ C]at H;omega,C,L⟩
theorem bJ.held{a v b}(h:bJ w G a v):0<iI b a v->b<w.heap.size:=by
 induction h with
 |agg C vs p h I=>
  intro l;simp only[iI]at l;have key:∀(C:List AV) (vs:List Value),0<cV b C vs->∃(i:Nat) (c:AV) (v:Value),C[i]?=Z c/\vs[i]?=Z v/\0<iI b c v:=by
   intro C;induction C with
   |nil=>intro vs h;rw[JI]at h;omega|cons c C I=>
    intro vs h;cases vs with
    |nil=>simp[cV]at h|cons v vs=>
     simp only[cV]at h;by_cases H:0<iI b c v;exact⟨0,c,v,rfl,rfl,H⟩;obtain⟨i,j,m,E,r,g⟩:=I vs (by omega);exact⟨i+1,j,m,by simpa using E,by simpa using r,g⟩
  obtain⟨i,c,v,E,r,g⟩:=key C vs.toList l;exact I i c v E (by simpa using r) g
 |fC C vs p h I=>
  intro l;simp only[iI]at l;have key:∀(C:List AV) (vs:List Value),0<cV b C vs->∃(i:Nat) (c:AV) (v:Value),C[i]?=Z c/\vs[i]?=Z v/\0<iI b c v:=by
   intro C;induction C with
   |nil=>intro vs h;rw[JI]at h;omega|cons c C I=>
    intro vs h;cases vs with
    |nil=>simp[cV]at h|cons v vs=>
     simp only[cV]at h;by_cases H:0<iI b c v;exact⟨0,c,v,rfl,rfl,H⟩;obtain⟨i,j,m,E,r,g⟩:=I vs (by omega);exact⟨i+1,j,m,by simpa using E,by simpa using r,g⟩
  obtain⟨i,c,v,E,r,g⟩:=key C vs.toList l;exact I i c v E (by simpa using r) g
 |iY sz rows a cap R O F x T D H q N M I=>
  intro l;simp only[iI]at l;split at l;rename_i e;obtain⟨c,n,k,_⟩:=M;rw[<-e];exact(aaA.1 k).1;omega
 |raw sz rows a cap R O F x T D H q N M I=>
  intro l;simp only[iI]at l;split at l;rename_i e;obtain⟨c,n,k,_⟩:=M;rw[<-e];exact(aaA.1 k).1;omega
 |_=>intro l;simp[iI]at l
theorem dm.held{as x b}(h:dm w G as x)(l:0<cV b as x):b<w.heap.size:=by
 have:bJ w G (.agg as) (.agg x.toArray):=.agg _ _ (by simpa using h.1) λi c v E r=>h.2 i c v E (by simpa using r);exact this.held (by simpa [iI] using l)
theorem uR.held{O loc b}(h:uR w G O loc)(H:0<kN b loc O):b<w.heap.size:=by
 have lz:loc.lz=Z b->b<w.heap.size:=by
  intro e;unfold yD.lz at e;split at e;cases e;rename_i I;cases O with
  |rows D sz rows=>
   obtain⟨_,_,l⟩:=h;rcases l.uQ with⟨n,_⟩|⟨B,off,c,z,y,F,C,_⟩;exact bH n I;rw[y]at e;simp at e;subst e;exact(aaA.1 C).1
  |map m=>
   obtain⟨_,_,B,v,clock,l,p,_⟩:=h;rw[l]at e;simp at e;subst e;exact(aaA.1 p).1
 cases O with
 |rows D sz rows=>
  simp only[kN]at H;split at H;exact lz (by assumption);obtain⟨_,_,l⟩:=h;have key:∀(rs:List (List AV)) (g:List (List Value)),0<iM b rs g->∃(i:Nat) (r:List AV) (x:List Value),rs[i]?=Z r/\g[i]?=Z x/\0<cV b r x:=by
   intro rs;induction rs with
   |nil=>intro g h;simp[iM]at h|cons r rs s=>
    intro g h;cases g with
    |nil=>simp[iM]at h|cons x g=>
     simp only[iM]at h;by_cases q:0<cV b r x;exact⟨0,r,x,rfl,rfl,q⟩;obtain⟨i,R,t,E,j,k⟩:=s g (by omega);exact⟨i+1,R,t,by simpa using E,by simpa using j,k⟩
  obtain⟨i,r,x,E,j,k⟩:=key rows loc.vals (by omega);exact(l.y5 i r x E j).held k
 |map m=>
  simp only[kN]at H;split at H;exact lz (by assumption);omega
theorem mH.held{st b}(h:mH w G st)(H:0<dh b G.ls st):b<w.heap.size:=by
 have key:∀(L:List yD) (st:List iW),0<dh b L st->∃(i:Nat) (l:yD) (o:iW),L[i]?=Z l/\st[i]?=Z o/\0<kN b l o:=by
  intro L;induction L with
  |nil=>intro st h;simp[dh]at h|cons l L I=>
   intro st h;cases st with
   |nil=>simp[dh]at h|cons o st=>
    simp only[dh]at h;by_cases j:0<kN b l o;exact⟨0,l,o,rfl,rfl,j⟩;obtain⟨i,k,O,E,r,g⟩:=I st (by omega);exact⟨i+1,k,O,by simpa using E,by simpa using r,g⟩
 obtain⟨i,l,o,E,r,g⟩:=key G.ls st H;exact(h.bX i o l r E).held g
theorem ny.held{B b}(h:ny w G β B)(p:0<ja b β B):b<w.heap.size:=by
 have key:∀(β:List wj) (B:jM),0<ja b β B->∃(i:Nat) (g:wj) (r:List AV),β[i]?=Z g/\B[i]?=Z r/\0<(if g.lz=Z b then 1 else 0)+cV b r g.vals:=by
  intro β;induction β with
  |nil=>intro st h;simp[ja]at h|cons l t I=>
   intro st h;cases st with
   |nil=>simp[ja]at h|cons o st=>
    simp only[ja]at h;by_cases H:0<(if l.lz=Z b then 1 else 0)+cV b o l.vals;exact⟨0,l,o,rfl,rfl,H⟩;obtain⟨i,L,O,E,j,k⟩:=I st (by omega);exact⟨i+1,L,O,by simpa using E,by simpa using j,k⟩
 obtain⟨i,g,r,E,j,k⟩:=key β B p;have m:=h.box i r g j E;by_cases H:0<cV b r g.vals;exact m.yT.held H;split at k;rename_i M;rcases m.uQ with⟨n,_⟩|⟨q,c,s,y,z,_⟩;rw[n]at M;cases M;rw[y]at M;cases M;exact(aaA.1 z).1;omega
end Ax
namespace Ax
open Go
variable {P:Program}{w w':World}{G G':bT}{β jE:List wj}{ρ:Operand->Value}{o:Oper}
structure mj (w:World)(G:bT)(β:List wj)(st:aO)(bx:jM)(cO:Nat->Nat)(w':World)(G':bT)(jE:List wj)(st':aO)(iJ:jM)(e:kz)(v:Value):Prop where
 lY:xO w G w' G'
 inv:mH w' G' st'
 box:ny w' G' jE iJ
 yT:nX w' G' jE e v
 iI:∀b,dH b e v+ja b jE iJ+dh b G'.ls st'<=cO b+ja b β bx+dh b G.ls st+(if w.heap.size<=b then 1 else 0)
 BJ:∀b,cO b+ja b β bx+dh b G.ls st=0->b<w.heap.size->fY w G w' G' b
 size:w.heap.size<=w'.heap.size
 os:w'.os=w.os
 out:w'.output=w.output
theorem mj.ri{st bx cO e v}(j:mH w G st)(m:ny w G β bx)(hr:nX w G β e v)(hc:∀b,dH b e v<=cO b):mj w G β st bx cO w G β st bx e v where
 lY:=xO.refl w G
 inv:=j
 box:=m
 yT:=hr
 iI:=λb=>by have:=hc b;omega
 BJ:=λ_ _ _=>⟨rfl,rfl⟩
 size:=aal _
 os:=rfl
 out:=rfl
def bT.new(G:bT)(n:Nat)(x:Option Nat)(l:List yD):bT:=⟨G.ls++l,λb=>if b=n then x else G.qi b⟩
theorem Yc{O}(H:w'.heap=w.heap.push O){b o}(l:b<w.heap.size):w'.cell? ⟨b,o,K⟩=w.cell? ⟨b,o,K⟩:=by
 refine vD ?_;rw[H,aoc,ah]
theorem xQ{O}(H:w'.heap=w.heap.push O)(x l):xO w G w' (G.new w.heap.size x l) where
 imm:=λb o hi=>by
  refine⟨Yc H hi.1,by rw[H];simp;have:=hi.1;omega,λp j=>?_⟩;have:¬b=w.heap.size:=by have:=hi.1;omega
  simp only[bT.new,U this]at j;exact hi.2 p j
 gm:=λid loc hl=>by
  refine⟨loc,?_,aal _,λ_=>rfl⟩;simp only[bT.new];rw[aaj (aad.1 hl).1];exact hl
theorem jO{O}(H:w'.heap=w.heap.push O)(x l){b}(h:b<w.heap.size):fY w G w' (G.new w.heap.size x l) b:=by
 refine⟨by simp only[bT.new];rw[ah],?_⟩;rw[H,aoc,ah]
theorem bJ.push{O}(H:w'.heap=w.heap.push O)(x l){a v}(h:bJ w G a v):bJ w' (G.new w.heap.size x l) a v:=
 h.lY (xQ H x l) λ_ g=>jO H x l (h.held g)
theorem dm.push{O}(H:w'.heap=w.heap.push O)(x l){as g}(h:dm w G as g):dm w' (G.new w.heap.size x l) as g:=
 ⟨h.1,λi c v E r=>(h.2 i c v E r).push H x l⟩
theorem VE{O}(g:w'.heap=w.heap.push O)(x){st}(j:mH w G st):mH w' (G.new w.heap.size x []) st where
 len:=by simp[bT.new,j.len]
 bX:=λid q loc l k=>by
  simp only[bT.new,afB]at k;have h:=j.bX id q loc l k;exact h.lY (xQ g x []) λb m=>jO g x [] (h.held m)
 qT:=λb p H=>by
  simp only[bT.new]at H;rw[g];simp only[apC];split at H;omega;have:=j.qT b p H;omega
theorem Qv{O}(m:w'.heap=w.heap.push O)(x){st}(j:mH w G st){loc ao}(h:uR w' (G.new w.heap.size x [loc]) ao loc):mH w' (G.new w.heap.size x [loc]) (st++[ao]) where
 len:=by simp[bT.new,j.len]
 bX:=λid q l g H=>by
  simp only[bT.new]at H;by_cases I:id<Q st;rw[aaj I]at g;rw[aaj (by rw[j.len];exact I)]at H;have h:=j.bX id q l g H;exact h.lY (xQ m x [loc]) λb n=>jO m x [loc] (h.held n);rw[aak (by omega)]at g;rw[aak (by rw[j.len];omega)]at H;rw[j.len]at H;have B:id-Q st=0:=by
   have:=(aad.1 g).1;simp at this;omega
  rw[B]at g H;simp at g H;subst g;subst H;exact h
 qT:=λb p k=>by
  simp only[bT.new]at k;rw[m];simp only[apC];split at k;omega;have:=j.qT b p k;omega
theorem JO{O}(p:w'.heap=w.heap.push O)(x l){bx}(m:ny w G β bx):ny w' (G.new w.heap.size x l) β bx where
 len:=m.len
 box:=λj k g H n=>by
  have h:=m.box j k g H n;refine h.lY (xQ p x l) λb q=>jO p x l (m.held (b:=b) ?_);have:=rT b β bx j g k n H;omega
theorem IW{O}(H:w'.heap=w.heap.push O)(t:w'.os=w.os)(D:w'.output=w.output)(x){st bx}(j:mH w G st)(m:ny w G β bx){cO a v}(hr:bJ w' (G.new w.heap.size x []) a v)(hc:∀b,iI b a v<=if b=w.heap.size then 1 else 0):mj w G β st bx cO w' (G.new w.heap.size x []) β st bx (.val a) v where
 lY:=xQ H x []
 inv:=VE H x j
 box:=JO H x [] m
 yT:=hr
 iI:=λb=>by
  have:=hc b;simp only[dH,bT.new,afB];split at this;rename_i e;subst e;simp;omega;omega
 BJ:=λb _ l=>jO H x [] l
 size:=by rw[H];simp
 os:=t
 out:=D
theorem xR{ob}(H:w'.heap=w.heap.push ob)(t:w'.os=w.os)(D:w'.output=w.output){st bx}(j:mH w G st)(m:ny w G β bx){cO a v loc ao}(h:uR w' (G.new w.heap.size (Z 0) [loc]) ao loc)(hr:bJ w' (G.new w.heap.size (Z 0) [loc]) a v)(hn:a.dw=Y)(hc:∀b,kN b loc ao<=(if b=w.heap.size then 1 else 0)+cO b):
  mj w G β st bx cO w' (G.new w.heap.size (Z 0) [loc]) β (st++[ao]) bx (.val a) v where
 lY:=xQ H _ _
 inv:=Qv H _ j h
 box:=JO H _ _ m
 yT:=hr
 iI:=λb=>by
  have g:=hc b;simp only[dH,bT.new,gW b a v hn];rw[xP b _ _ _ _ j.len];simp only[dh];split at g;rename_i e;subst e;simp;omega;omega
 BJ:=λb _ l=>jO H _ _ l
 size:=by rw[H];simp
 os:=t
 out:=D
theorem xS{sz}{m:Type}:∀(rows:List (List m)) i j r c,(∀r∈rows,Q r=sz)->rows[i]?=Z r->r[j]?=Z c->rows.flatten[i*sz+j]?=Z c
 |[],_,_,_,_,_,h,_=>by simp at h|r0::rows,0,j,r,c,k,H,g=>by
  simp at H;subst H;simp only[afk,aoP,afZ];rw[aaj (aad.1 g).1];exact g
 |r0::rows,i+1,j,r,c,k,H,g=>by
  have I:=xS rows i j r c (λr l=>k r (by simp[l])) (by simpa using H) g;have B:Q r0=sz:=k r0 (by simp);simp only[afk];rw[aak (by rw[B,afY];omega),B];rw[show (i+1)*sz+j-sz=i*sz+j by rw[afY];omega];exact I
theorem dx{sz rows}:cy sz rows=Y↔∀r∈rows,Q r=sz:=by
 simp[cy]
theorem iB{sz}{g:Type}:∀(rows:List (List g)),(∀r∈rows,Q r=sz)->Q rows.flatten=Q rows*sz
 |[],_=>by simp|r::rows,h=>by
  simp only[afk,aaq,aaK];rw[iB rows λr H=>h r (by simp[H]),h r (by simp),afY];omega
def xG{g:Type}(sz:Nat):Nat->List g->List (List g)
 |0,_=>[]
 |n+1,xs=>xs.take sz::xG sz n (xs.drop sz)
theorem HL{g}(s):∀n (x:List g),Q (xG s n x)=n
 |0,_=>rfl|n+1,x=>by simp[xG,HL s n]
theorem JP{g}(s):∀n (x:List g) i y,(xG s n x)[i]?=Z y->y=(x.drop (i*s)).take s
 |0,_,_,_,h=>by simp[xG]at h|n+1,x,0,y,h=>by simp[xG]at h;simp[h]|n+1,x,i+1,y,h=>by
  simp only[xG,List.getElem?_cons_succ]at h;rw[JP s n _ i y h,afC];congr 2;rw[afY];omega
theorem Mq{s}:∀(rows:List (List AV)) i r,(∀r∈rows,Q r=s)->rows[i]?=Z r->(rows.flatten.drop (i*s)).take s=r
 |[],_,_,_,h=>by simp at h|r0::rows,0,r,H,h=>by
  simp at h;subst h;have B:Q r0=s:=H r0 (by simp);simp[<-B]
 |r0::rows,i+1,r,H,h=>by
  have I:=Mq rows i r (λr g=>H r (by simp[g])) (by simpa using h);have B:Q r0=s:=H r0 (by simp);simp only[afk];rw[show (i+1)*s=Q r0+i*s by rw[B,afY];omega,<-afC,List.drop_left];exact I
theorem wH{sz}(b):∀rows xs,(∀r∈rows,Q r=sz)->Q rows.flatten=Q xs->iM b rows (xG sz (Q rows) xs)=cV b rows.flatten xs
 |[],xs,_,_=>by simp[iM,JI]|r::rows,xs,H,h=>by
  have B:Q r=sz:=H r (by simp);simp only[aaK,xG,iM,afk];rw[afk,aaq]at h;rw[wH b rows (xs.drop sz) (λr g=>H r (by simp[g])) (by rw[List.length_drop];omega)];have:=iL b r rows.flatten (xs.take sz) (xs.drop sz) (by rw[List.length_take];omega);rw[List.take_append_drop]at this;omega
theorem rU{sz rows loc b off c e xs}(H:cy sz rows=Y)(L:∀r∈rows,AV.bG r=Y)(F:dm w G rows.flatten xs)(m:loc.len=Q rows)(n:loc.sz=sz)(l:loc.vals=xG sz (Q rows) xs)(p:loc.a=Z ⟨b,off,K⟩)(O:0<loc.cap)(C:w.heap[b]?=Z (.cells c e (0,0)))(N:off+loc.cap*sz<=c.size)(q:Q rows<=loc.cap)(s:G.qi b=Z 0)(h:∀k x,xs[k]?=Z x->w.cell? ⟨b,off+k,K⟩=Z x):BG w G sz rows loc where
 zR:=H
 IU:=L
 len:=m
 size:=n
 yE:=by rw[l,HL]
 y5:=λi r y g E=>by
  rw[l]at E;rw[JP _ _ _ _ _ E,<-Mq rows i r (dx.1 H) g];exact(F.drop _).take _
 uQ:=by
  refine .inr ⟨b,off,c,e,p,O,C,N,q,s,λi y j x g E=>?_⟩;rw[l]at g;rw[JP _ _ _ _ _ g,abv]at E;split at E;rw[afw]at E;exact h _ x E;cases E
end Ax
namespace Ax
open Go
variable {P:Program}{w w':World}{G G':bT}{β jE:List wj}{ρ:Operand->Value}{o:Oper}
theorem JQ{c e}(H:w'.heap=w.heap.push (.cells c e)){k x}(h:c[k]?=Z x):w'.cell? ⟨w.heap.size,k,K⟩=Z x:=by
 simp[World.cell?,H,h]
theorem wI{ob}(H:w'.heap=w.heap.push ob):w'.heap[w.heap.size]?=Z ob:=by simp[H]
theorem aaN{s cap rows c e g l}(H:w'.heap=w.heap.push (.cells c e))(h:cy s rows=Y)(L:∀r∈rows,AV.bG r=Y)(F:dm w G rows.flatten g)(O:0<cap)(N:cap*s<=c.size)(q:Q rows<=cap)(j:∀(k:Nat) x,g[k]?=Z x->c[k]?=Z x)(D):
  BG w' (G.new w.heap.size (Z 0) l) s rows ⟨Z ⟨w.heap.size,0,K⟩,cap,Q rows,s,D,X,xG s (Q rows) g⟩:=
 rU h L (F.push H _ _) rfl rfl rfl rfl O (wI H) (by simpa using N) q (by simp[bT.new]) λk x m=>by
  rw[afZ];exact JQ H (j k x m)
theorem BK{sz cap rows c e xs st B}(j:mH w G st)(m:ny w G β B){cO}(g:w'.heap=w.heap.push (.cells c e))(T:w'.os=w.os)(D:w'.output=w.output)(n:cy sz rows=Y)(L:∀r∈rows,AV.bG r=Y)(F:dm w G rows.flatten xs)(O:0<cap)(N:cap*sz<=c.size)(q:Q rows<=cap)(v:∀(k:Nat) x,xs[k]?=Z x->c[k]?=Z x)(s:∀b,cV b rows.flatten xs<=cO b):
  ∃G',mj w G β st B cO w' G' β (st++[.rows 0 sz rows]) B (.val (.mu (Q st) 0)) (.slice (Z ⟨w.heap.size,0,K⟩) (Q rows) cap)/\
   mj w G β st B cO w' G' β (st++[.rows 0 sz rows]) B (.val (.ptr (Q st) 0 0 0)) (.pointer (Z ⟨w.heap.size,0,K⟩)):=by
 have z:=aaN (l:=[⟨Z ⟨w.heap.size,0,K⟩,cap,Q rows,sz,0,X,xG sz (Q rows) xs⟩]) g n L F O N q v 0;have t:∀b,kN b ⟨Z ⟨w.heap.size,0,K⟩,cap,Q rows,sz,0,X,xG sz (Q rows) xs⟩ (.rows 0 sz rows)<=(if b=w.heap.size then 1 else 0)+cO b:=by
  intro b;simp only[kN,yD.lz];rw[wH b rows xs (dx.1 n) F.1,U (show ¬cap=0 by omega)];have:=s b;simp only[afs,bE];by_cases H:b=w.heap.size;subst H;simp;omega;rw[U (λh=>H h.symm),U H];omega
 have p:(G.new w.heap.size (Z 0) [⟨Z ⟨w.heap.size,0,K⟩,cap,Q rows,sz,0,X,xG sz (Q rows) xs⟩]).ls[Q st]?=Z ⟨Z ⟨w.heap.size,0,K⟩,cap,Q rows,sz,0,X,xG sz (Q rows) xs⟩:=by
  simp only[bT.new];rw[aak (by rw[j.len];exact aal _),j.len];simp
 refine⟨_,xR g T D j m ⟨rfl,rfl,z⟩ (.mu _ _ _ _ ⟨_,_,_,rfl⟩ p (aal _) λ_=>rfl) rfl t,
  xR g T D j m ⟨rfl,rfl,z⟩ (.ptr _ _ _ _ _ _ ⟨_,rfl⟩ p (aal _) λ_=>⟨_,rfl,by simp⟩) rfl t⟩
theorem NO{s cap rows b off c e m}(n:cy s rows=Y)(L:∀r∈rows,AV.bG r=Y)(E:∀r∈rows,AV.fT r=Y)(T:∀r∈rows,AV.aD r=Y)(F:dm w G rows.flatten m)(C:w.heap[b]?=Z (.cells c e (0,0)))(N:off+cap*s<=c.size)(q:Q rows<=cap)(t:G.qi b=Z (off+Q rows*s))(y:∀k x,m[k]?=Z x->c[off+k]?=Z x):bJ w G (.iY s rows) (.slice (Z ⟨b,off,K⟩) (Q rows) cap):=by
 have S:∀(k:Nat) x,m[k]?=Z x->w.cell? ⟨b,off+k,K⟩=Z x:=λk x h=>by simp[World.cell?,C,y k x h]
 have key:∀(i:Nat) r (j:Nat) a,rows[i]?=Z r->r[j]?=Z a->∃v,w.cell? ⟨b,off+(i*s+j),K⟩=Z v/\bJ w G a v:=by
  intro i r j a H g;have l:=xS rows i j r a (dx.1 n) H g;have R:i*s+j<Q m:=by rw[<-F.1];exact(aad.1 l).1
  exact⟨_,S _ _ (aae R),F.2 _ _ _ l (aae R)⟩
 refine .iY s rows ⟨b,off,K⟩ cap rfl q n E T L (λi r j a H g=>?_) (λi r j a v H g l=>?_) t ⟨c,e,C,N⟩;obtain⟨v,h,_⟩:=key i r j a H g;exact⟨v,h⟩;obtain⟨z,h,p⟩:=key i r j a H g;rw[h]at l;cases l;exact p
theorem NP{sz cap rows c e xs st B}(j:mH w G st)(m:ny w G β B){cO}(H:w'.heap=w.heap.push (.cells c e))(t:w'.os=w.os)(D:w'.output=w.output)(g:cy sz rows=Y)(L:∀r∈rows,AV.bG r=Y)(E:∀r∈rows,AV.fT r=Y)(T:∀r∈rows,AV.aD r=Y)(F:dm w G rows.flatten xs)(N:cap*sz<=c.size)(q:Q rows<=cap)(n:∀(k:Nat) x,xs[k]?=Z x->c[k]?=Z x):
  ∃G',mj w G β st B cO w' G' β st B (.val (.iY sz rows)) (.slice (Z ⟨w.heap.size,0,K⟩) (Q rows) cap):=by
 refine⟨_,IW H t D (Z (Q rows*sz)) j m (NO g L E T (F.push H _ _) (wI H) (by simpa using N) q (by simp[bT.new]) λk x l=>by rw[afZ];exact n k x l) λb=>?_⟩;simp only[iI];split;rename_i h;rw[af h.symm];omega;omega
theorem af0{s cap rows b off c e m}(n:cy s rows=Y)(L:∀r∈rows,AV.bG r=Y)(E:∀r∈rows,AV.fT r=Y)(T:∀r∈rows,AV.aD r=Y)(F:dm w G rows.flatten m)(C:w.heap[b]?=Z (.cells c e (0,0)))(N:off+cap*s<=c.size)(q:Q rows<=cap)(t:G.qi b=Z 0)(y:∀k x,m[k]?=Z x->c[off+k]?=Z x):bJ w G (.raw s rows) (.slice (Z ⟨b,off,K⟩) (Q rows) cap):=by
 have S:∀(k:Nat) x,m[k]?=Z x->w.cell? ⟨b,off+k,K⟩=Z x:=λk x h=>by simp[World.cell?,C,y k x h]
 have key:∀(i:Nat) r (j:Nat) a,rows[i]?=Z r->r[j]?=Z a->∃v,w.cell? ⟨b,off+(i*s+j),K⟩=Z v/\bJ w G a v:=by
  intro i r j a H g;have l:=xS rows i j r a (dx.1 n) H g;have R:i*s+j<Q m:=by rw[<-F.1];exact(aad.1 l).1
  exact⟨_,S _ _ (aae R),F.2 _ _ _ l (aae R)⟩
 refine .raw s rows ⟨b,off,K⟩ cap rfl q n E T L (λi r j a H g=>?_) (λi r j a v H g l=>?_) t ⟨c,e,C,N⟩;obtain⟨v,h,_⟩:=key i r j a H g;exact⟨v,h⟩;obtain⟨z,h,p⟩:=key i r j a H g;rw[h]at l;cases l;exact p
theorem af1{sz cap rows c e xs st B}(j:mH w G st)(m:ny w G β B){cO}(H:w'.heap=w.heap.push (.cells c e))(t:w'.os=w.os)(D:w'.output=w.output)(g:cy sz rows=Y)(L:∀r∈rows,AV.bG r=Y)(E:∀r∈rows,AV.fT r=Y)(T:∀r∈rows,AV.aD r=Y)(F:dm w G rows.flatten xs)(N:cap*sz<=c.size)(q:Q rows<=cap)(n:∀(k:Nat) x,xs[k]?=Z x->c[k]?=Z x):
  ∃G',mj w G β st B cO w' G' β st B (.val (.raw sz rows)) (.slice (Z ⟨w.heap.size,0,K⟩) (Q rows) cap):=by
 refine⟨_,IW H t D (Z 0) j m (af0 g L E T (F.push H _ _) (wI H) (by simpa using N) q (by simp[bT.new]) λk x l=>by rw[afZ];exact n k x l) λb=>?_⟩;simp only[iI];split;rename_i h;rw[af h.symm];omega;omega
theorem VF{m c e st bx}(v:mH w G st)(n:ny w G β bx){cO}(H:w'.heap=w.heap.push (.cells c e))(T:w'.os=w.os)(D:w'.output=w.output){j}(q:j<Q bx)(F:dm w G m c.toList)(L:AV.bG m=Y)(hc:∀b,cV b m c.toList<=cO b):
  mj w G β st bx cO w' (G.new w.heap.size (Z 0) []) (β.set j ⟨Z w.heap.size,c.toList⟩) st (bx.set j m) (.fp j 0) (.pointer (Z ⟨w.heap.size,0,K⟩)) where
 lY:=xQ H _ _
 inv:=VE H _ v
 box:=by
  have s:=JO H (Z 0) [] n;refine⟨by simp[n.len],λi r g h l=>?_⟩;rw[aaD]at h l;split at h;rename_i I;subst I;rw[af rfl,af (by rw[n.len];exact q)]at l;cases h;cases l;refine⟨F.push H _ _,L,.inr ⟨w.heap.size,c,e,rfl,wI H,by rw[F.1];simp,by simp[bT.new],λk x z=>JQ H (by simpa using z)⟩⟩;rw[U (by assumption)]at l;exact s.box i r g h l
 yT:=⟨_,_,by rw[aaD,af rfl,af (by rw[n.len];exact q)],rfl,rfl⟩
 iI:=λb=>by
  have t:j<Q β:=by rw[n.len];exact q
  have y:β[j]?=Z β[j]:=aae t;have hr:bx[j]?=Z bx[j]:=aae q;have h:=EP b β bx j _ _ ⟨Z w.heap.size,c.toList⟩ m y hr;have l:=hc b;simp only[dH,bT.new,afB];simp only[bE]at h;by_cases p:w.heap.size=b;subst p;simp only[bz]at h;rw[af (aal _)];omega;rw[U p]at h;omega
 BJ:=λb _ p=>jO H _ _ p
 size:=by rw[H];simp
 os:=T
 out:=D
theorem VG{t}(H:o.op=.alloc t){i z}(h:P.info? t=Z i)(g:i.zero=Z z):
  (execOp ρ o).run P w=.ok (.value (.pointer (Z ⟨w.heap.size,0,K⟩))) (w.alloc (.cells z.cells t)):=by
 simp[execOp,H,Instr.alloc,zeroValue,typeInfo,h,g,newVar,newRow]
theorem ajv{t x}(z:o.op=.box t x):
  (execOp ρ o).run P w=.ok (.value (.pointer (Z ⟨w.heap.size,0,K⟩))) (w.alloc (.cells (ρ x).cells t)):=by
 simp[execOp,z,Instr.box,newVar,newRow]
theorem Mr{zero}(h:∀c∈zero,c.dw=Y/\c.aH=Y)(b xs):cV b zero xs=0:=
 fD b _ _ ((dG zero).2 λc H=>(h c H).1)
theorem Yd{st B}(j:mH w G st)(m:ny w G β B){cO t}{z:Value}{zero}(F:dm w G zero z.cells.toList)(g:∀c∈zero,c.dw=Y/\c.aH=Y)(H:AV.bG zero=Y):
  ∃G',mj w G β st B cO (w.alloc (.cells z.cells t)) G' β (st++[.rows 0 (Q zero) [zero]]) B (.val (.ptr (Q st) 0 0 0)) (.pointer (Z ⟨w.heap.size,0,K⟩)):=by
 obtain⟨G',_,h⟩:=BK (sz:=Q zero) (cap:=1) (rows:=[zero]) (c:=z.cells) (e:=t) (xs:=z.cells.toList) (w':=w.alloc (.cells z.cells t)) (cO:=cO) j m rfl rfl rfl (by simp[cy]) (by simpa using H) (by simpa using F) (by omega)
  (by rw[F.1];simp) (by simp) (by simp) (λb=>by simp only[afk,aoT,afB];rw[Mr g];omega)
 exact⟨G',h⟩
theorem aaO{st B}(j:mH w G st)(m:ny w G β B){cO t a v n}(p:bJ w G a v)(g:Q a.cells=n)(l:AV.bG a.cells=Y)(k:∀b,iI b a v<=cO b):
  ∃G',mj w G β st B cO (w.alloc (.cells v.cells t)) G' β (st++[.rows 0 n [a.cells]]) B (.val (.ptr (Q st) 0 0 0)) (.pointer (Z ⟨w.heap.size,0,K⟩)):=by
 obtain⟨H,L⟩:=p.cells;obtain⟨G',_,h⟩:=BK (sz:=n) (cap:=1) (rows:=[a.cells]) (c:=v.cells) (e:=t) (xs:=v.cells.toList) (w':=w.alloc (.cells v.cells t)) (cO:=cO) j m rfl rfl rfl (by simp[cy,g]) (by simpa using l) (by simpa using H) (by omega)
  (by rw[<-g,H.1];simp) (by simp) (by simp) (λb=>by simp only[afk,aoT,afB];rw[L];exact k b)
 exact⟨G',h⟩
theorem JR{m s}:∀(rows:List (List m)) i r,(∀r∈rows,Q r=s)->Q r=s->i<Q rows->(rows.set i r).flatten=aB rows.flatten (i*s) r
 |[],_,_,_,_,h=>by simp at h|r0::rows,0,r,j,H,_=>by
  have B:Q r0=s:=j r0 (by simp);have e:=mS (r0++rows.flatten) 0 r (by simp;omega);simp only[ah1,afk,aoP];rw[e];simp[H,<-B]
 |r0::rows,i+1,r,j,H,h=>by
  have B:Q r0=s:=j r0 (by simp);have g:∀r∈rows,Q r=s:=λr H=>j r (by simp[H]);have I:=JR rows i r g H (by simpa using h);have R:i<Q rows:=by simpa using h
  have k:i*s+Q r<=Q rows.flatten:=by
   rw[iB rows g,H]
   calc i*s+s=(i+1)*s:=by rw[afY]
    _<=Q rows*s:=aeb _ R
  have l:(i+1)*s=Q r0+i*s:=by rw[B,afY];omega
  simp only[ajt,afk];rw[I,l,mS (r0++rows.flatten) _ _ (by rw[aaq];omega),mS _ _ _ k,Nat.add_assoc,List.take_append,List.drop_append];simp[List.append_assoc,show Q r0+i*s-Q r0=i*s by omega,show Q r0+(i*s+Q r)-Q r0=i*s+Q r by omega,List.take_of_length_le,List.drop_of_length_le]
theorem DR{s}:∀q vs rows g,(∀r∈rows,Q r=s)->jc s rows q vs=Z g->
  kV rows.flatten (q.map λi=>(i*s,s)) vs=Z g.flatten/\(∀r∈g,Q r=s)/\Q g=Q rows
 |[],[],rows,g,j,h=>by simp[jc]at h;subst h;exact⟨rfl,j,rfl⟩|[],_::_,_,_,_,h=>by simp[jc]at h|_::_,[],_,_,_,h=>by simp[jc]at h|i::q,v::vs,rows,g,j,h=>by
  simp only[jc]at h;split at h;rename_i H;simp only[E6,aC]at H;have k:∀r∈rows.set i v.cells,Q r=s:=by
   intro r p;rcases List.mem_or_eq_of_mem_set p with h|h;exact j r h;rw[h];exact H.1
  obtain⟨E,m,n⟩:=DR q vs _ g k h;refine⟨?_,m,by simpa using n⟩;have l:i*s+s<=Q rows.flatten:=by
   rw[iB rows j]
   calc i*s+s=(i+1)*s:=by rw[afY]
    _<=Q rows*s:=aeb _ H.2
  simp only[aaZ,kV];rw[af (by simp only[H.1,decide_true,Bool.true_and,aC];exact l),<-JR rows i v.cells j H.1 H.2];exact E;cases h
theorem Eh(sz n)(zero:List AV)(g:Q zero=sz)(O:0<sz)(k)(m:k<n*sz):(aag n zero).flatten[k]?=zero[k % sz]?:=by
 have j:k / sz<n:=Nat.div_lt_of_lt_mul (by rw[Nat.mul_comm];exact m);have H:k % sz<Q zero:=by rw[g];exact Nat.mod_lt _ O
 have h:=xS (sz:=sz) (aag n zero) (k / sz) (k % sz) zero zero[k % sz] (λr l=>by rw[af3 l,g]) (by rw[List.getElem?_replicate,af j]) (aae H);rw[Nat.mul_comm,Nat.div_add_mod]at h;rw[h,aae H]
theorem Gz{sz n zero}{z:Array Value}(F:dm w G zero z.toList)(h:Q zero=sz)(O:0<sz):
  dm w G (aag n zero).flatten (((aof (n*sz)).map (z[· % z.size]!)).toList):=by
 have l:z.size=sz:=by rw[<-h,F.1];simp
 refine⟨by rw[iB (sz:=sz) _ (λr p=>by rw[af3 p,h])];simp,λk c v g H=>?_⟩;have m:k<n*sz:=by
  have:=(aad.1 H).1;simpa using this
 rw[Eh sz n zero h O k m]at g;have j:k % sz<z.size:=by rw[l];exact Nat.mod_lt _ O
 simp only[ane,Array.toList_range,aaz,ahs m,afs,bE,l]at H;refine F.2 _ c v g ?_;rw[<-H,getElem!_pos z (k % sz) j];simp[j]
theorem ajw{t e n s parts}(ho:o.op=.buildSlice t n parts)(hu:P.underlying t=Z (.slice e))(W:dD P e s=Y)(TC:n*s<=16777216){zero}(hz:sV P e zero=Y)(y:0<s)(B:Q zero=s){v}(hq:parts.toList.map (·.1)=v){vs rows}(D:jc s (aag n zero) v vs=Z rows)(hn:0<n)(hv:dm w G vs (parts.toList.map λp=>ρ p.2)):
  ∃cells,(execOp ρ o).run P w=.ok (.value (.slice (Z ⟨w.heap.size,0,K⟩) (Q rows) n)) (w.alloc (.cells cells e))/\dm w G rows.flatten cells.toList/\(∀b,cV b rows.flatten cells.toList<=cV b vs (parts.toList.map λp=>ρ p.2))/\
   cy s rows=Y/\Q rows=n/\n*s=cells.size:=by
 obtain⟨i,z,C,J,M,T,_⟩:=pQ hz w G;obtain⟨i',L,j,_⟩:=oR W;rw[C]at L;cases L;obtain⟨I,E,N⟩:=DR v vs _ rows (λr m=>by rw[af3 m,B]) D;have O:(parts.map λ(x:Nat×Operand)=>(x.1,ρ x.2)).toList.map (·.2)=parts.toList.map λp=>ρ p.2:=by simp[Function.comp_def]
 obtain⟨cells,R,F,S⟩:=NI (place:=λi=>Z (i*s,s)) (parts.map λ(x:Nat×Operand)=>(x.1,ρ x.2)).toList _ vs _ _ _ I (Gz M B y) (by rw[O];exact hv) (by
  intro k p q h H;subst hq;simp only[ane,aaz,adM,List.map_map]at h H;obtain⟨p',h,rfl⟩:=h;obtain⟨p'',H,rfl⟩:=H;rw[h]at H;cases H
  rfl)
 have U:Q rows=n:=by rw[N];simp
 have l:¬n*i.size=0:=by rw[j];have:=Nat.mul_pos hn y;omega
 have:=run_buildSlice w t e n (parts.map λ(x:Nat×Operand)=>(x.1,ρ x.2)) cells i z hu C J (by rw[j];omega) l (by rw[j];exact R);refine⟨cells,?_,F,λb=>?_,dx.2 E,U,?_⟩;simp only[execOp,ho,cq,this,dA,Sem.run_pure,U];have h:=S b;rw[O]at h;have H:cV b (aag n zero).flatten ((aof (n*s)).map (z.cells[· % z.cells.size]!)).toList=0:=by
  refine fD b _ _ ((dG _).2 λc g=>?_);obtain⟨r,m,g⟩:=ahY.1 g;rw[af3 m]at g;exact(T c g).1
 omega;have:=F.1;rw[iB rows E,U]at this;simpa using this
theorem Qw{t e x y}(I:o.op=.makeSlice t x y)(L:P.underlying t=Z (.slice e)){sz bytes}(O:dD P e sz=Y)(g:tR P e bytes=Y){zero}(S:sV P e zero=Y)(v:0<sz)(B:Q zero=sz){n c}(N:ρ x=.int .i64 n)(R:ρ y=.int .i64 c)(m:0<=n)(s:n<=c)(C:c*bytes<=dj)(D:c<=9223372036854775807):
  ∃cells,(execOp ρ o).run P w=.ok (.value (.slice (Z ⟨w.heap.size,0,K⟩) n.toNat c.toNat)) (w.alloc (.cells cells e))/\cells.size=c.toNat*sz/\
   dm w G (aag n.toNat zero).flatten (cells.toList.take (n.toNat*sz))/\∀b xs,cV b (aag n.toNat zero).flatten xs=0:=by
 obtain⟨i,z,j,J,M,T,_⟩:=pQ S w G;obtain⟨U,l,q,_⟩:=oR O;rw[j]at l;cases l;have E:i.bytes=bytes:=by simpa [tR,j] using g
 have:=run_make (P:=P) w t e i z L j J .i64 .i64 n c m s (by rw[E,Int.mul_comm];simp only[dj]at C;omega) D;refine⟨madeCells z.cells (c.toNat*i.size),by simp only[execOp,I,N,R,cq,this,dA,Sem.run_pure],by rw[size_madeCells,q],?_,λb xs=>?_⟩;have F:n.toNat*sz<=c.toNat*sz:=aeb _ (by omega);have h:=Gz (w:=w) (G:=G) (n:=c.toNat) M B v;have p:=h.take (n.toNat*sz);rw[q];unfold madeCells;have e:(aag c.toNat zero).flatten.take (n.toNat*sz)=(aag n.toNat zero).flatten:=by
  have:c.toNat=n.toNat+(c.toNat-n.toNat):=by omega
  rw[this,<-List.replicate_append_replicate,aj9,apz];exact iB (sz:=sz) _ (λr k=>by rw[af3 k,B]) |>.trans (by simp)
 rw[e]at p;exact p;refine fD b _ _ ((dG _).2 λc H=>?_);obtain⟨r,k,H⟩:=ahY.1 H;rw[af3 k]at H;exact(T c H).1
theorem af2{st B}(j:mH w G st)(m:ny w G β B){cO}:∃G',mj w G β st B cO (w.alloc (.map #[] 0)) G' β (st++[.map []]) B (.val (.map (Q st))) (.map (Z w.heap.size)):=by
 have H:(G.new w.heap.size (Z 0) [⟨Z ⟨w.heap.size,0,K⟩,1,0,0,0,Y,[]⟩]).ls[Q st]?=Z ⟨Z ⟨w.heap.size,0,K⟩,1,0,0,0,Y,[]⟩:=by
  simp only[bT.new];rw[aak (by rw[j.len];exact aal _),j.len];simp
 refine⟨_,xR (loc:=⟨Z ⟨w.heap.size,0,K⟩,1,0,0,0,Y,[]⟩) (ao:=.map []) (w':=w.alloc (.map #[] 0)) (ob:=.map #[] 0) rfl rfl rfl j m ⟨rfl,rfl,w.heap.size,#[],0,rfl,wI rfl,by simp[bT.new],rfl,λi k v e h=>by simp at h⟩ (.map _ _ _ H rfl rfl) rfl λb=>?_⟩;simp only[kN,yD.lz];by_cases l:b=w.heap.size;subst l;simp;simp[l];rw[U λh=>l h.symm];omega
end Ax
namespace Ax
open Go
variable {P:Program}{w w':World}{G G':bT}{β jE:List wj}{ρ:Operand->Value}{o:Oper}
theorem ur{n:Type}{s}:∀(rows:List _) k (c:n),(∀r∈rows,Q r=s)->rows.flatten[k]?=Z c->∃i j r,k=i*s+j/\rows[i]?=Z r/\r[j]?=Z c
 |[],k,c,_,h=>by simp at h|r0::rows,k,c,H,h=>by
  have B:Q r0=s:=H r0 (by simp);simp only[afk]at h;by_cases m:k<Q r0;rw[aaj m]at h;exact⟨0,k,r0,by simp,rfl,h⟩;rw[aak (by omega)]at h;obtain⟨i,j,r,p,E,l⟩:=ur rows _ c (λr g=>H r (by simp[g])) h;exact⟨i+1,j,r,by rw[afY];omega,by simpa using E,l⟩
theorem zW:∀(rows:List _)(vals:List _),Q rows=Q vals->(∀(i:Nat) r j,rows[i]?=Z r->vals[i]?=Z j->dm w G r j)->dm w G rows.flatten vals.flatten
 |[],[],_,_=>⟨rfl,λi c v h=>by simp at h⟩
 |[],_::_,h,_=>by simp at h|_::_,[],h,_=>by simp at h|r::rows,x::vals,n,h=>by
  obtain⟨k,W⟩:=h 0 r x rfl rfl;obtain⟨B,l⟩:=zW rows vals (by simpa using n) λi r j H g=>h (i+1) r j (by simpa using H) (by simpa using g);refine⟨by simp only[afk,aaq,k,B],λi c v H g=>?_⟩;simp only[afk]at H g;by_cases m:i<Q r;rw[aaj m]at H;rw[aaj (by omega)]at g;exact W i c v H g;rw[aak (by omega)]at H;rw[aak (by omega),<-k]at g;exact l _ c v H g
theorem ET(b):∀rows vals,Q rows=Q vals->(∀(i:Nat) r g,rows[i]?=Z r->vals[i]?=Z g->Q r=Q g)->cV b rows.flatten vals.flatten=iM b rows vals
 |[],[],_,_=>rfl|[],_::_,h,_=>by simp at h|_::_,[],h,_=>by simp at h|r::rows,x::vals,k,h=>by
  simp only[afk,iM];rw[iL b r _ x _ (h 0 r x rfl rfl),ET b rows vals (by simpa using k) λi r g H j=>h (i+1) r g (by simpa using H) (by simpa using j)]
theorem dm.append{as bs xs y}(h:dm w G as xs)(k:dm w G bs y):dm w G (as++bs) (xs++y):=by
 refine⟨by simp[h.1,k.1],λi c v H g=>?_⟩;by_cases j:i<Q as;rw[aaj j]at H;rw[aaj (by rw[<-h.1];exact j)]at g;exact h.2 i c v H g;rw[aak (by omega)]at H;rw[aak (by rw[<-h.1];omega),<-h.1]at g;exact k.2 _ c v H g
theorem Qx{s rows a n cap}(h:bJ w G (.eE s rows) (.slice (Z a) n cap)):
  n=Q rows/\a.spot=K/\cy s rows=Y/\(∀r∈rows,AV.fT r=Y)/\(∀r∈rows,AV.aD r=Y)/\(∀r∈rows,AV.bG r=Y)/\
  ∃t,dm w G rows.flatten t/\∀k x,t[k]?=Z x->w.cell? ⟨a.block,a.off+k,K⟩=Z x:=by
 cases h with
 |eE _ _ _ _ R O F z T D q B=>
 refine⟨rfl,R,F,z,T,D,(List.range (Q rows.flatten)).map λk=>(w.cell? ⟨a.block,a.off+k,K⟩).getD undef,⟨by simp,λk c v g p=>?_⟩,λk x h=>?_⟩;obtain⟨i,j,r,rfl,E,l⟩:=ur rows k c (dx.1 F) g;obtain⟨_,y,H⟩:=q i r j c E l;have m:=(aad.1 g).1;rw[aaz,ahs m,afs,H]at p;cases p;exact B i r j c y E l H;have m:k<Q rows.flatten:=by have:=(aad.1 h).1;simpa using this
 rw[aaz,ahs m,afs]at h;obtain⟨i,j,r,rfl,E,l⟩:=ur rows k _ (dx.1 F) (aae m);obtain⟨_,y,H⟩:=q i r j _ E l;rw[H]at h ⊢;simpa using h
theorem HO(a:AV):a.aj.cT=a.cT:=by cases a<;>simp[AV.aj,AV.cT]
theorem wJ:∀C,AV.bG (AV.cP C)=AV.bG C
 |[]=>rfl|c::C=>by
  have:=wJ C;simp only[AV.bG]at this;simp only[AV.cP,AV.bG,List.all_cons,HO,this]
theorem DS:∀(rows:List _),(rows.map AV.cP).flatten=AV.cP rows.flatten
 |[]=>rfl|r::rows=>by
  have g:∀a b:List AV,AV.cP (a++b)=AV.cP a++AV.cP b:=by
   intro a b;induction a with
   |nil=>rfl|cons x a I=>simp only[abb,AV.cP,I]
  simp only[aaZ,afk,g,DS rows]
theorem Ye(l):(qY l).flatten=l.map λb=>AV.int .u8 b.toNat:=by
 unfold qY;induction l with
 |nil=>rfl|cons b l I=>simp only[aaZ,afk,I];rfl
theorem GA{st}(hI:mH w G st){a v rows}(h:bJ w G a v)(g:dO st a=Z rows){S}(R:cy S rows=Y){T}(C:(∃e',P.underlying T=Z (.slice e'))\/P.underlying T=Z .string):
  ∃xs,dm w G rows.flatten xs/\Go.Src P S T v (Q rows) xs w/\(∀r∈rows,AV.bG r=Y)/\(∀r∈rows,AV.fT r=Y)/\((∀id D,a≠.mu id D)->∀r∈rows,AV.aD r=Y):=by
 have slice:∀(m:Addr) (c:Nat) (xs:List Value),m.spot=K->dm w G rows.flatten xs->(∀(k:Nat) x,xs[k]?=Z x->w.cell? ⟨m.block,m.off+k,K⟩=Z x)->(∀r∈rows,AV.bG r=Y)->
   Go.Src P S T (.slice (Z m) (Q rows) c) (Q rows) xs w:=by
  intro m c xs oQ I U N;have y:Q xs=Q rows*S:=by rw[<-I.1];exact iB rows (dx.1 R)
  obtain⟨bl,of,sp⟩:=m;simp only at oQ U;subst oQ;have M:∀j u,xs[j]?=Z u->w.cell? ((⟨bl,of,K⟩:Addr).add j)=Z u:=λj u h=>by rw[oU];exact U j u h
  have W:∀u∈xs,u.oneCell'=Y:=I.afR (by
   simp only[AV.bG,aam];intro c hc;obtain⟨r,H,hc⟩:=ahY.1 hc;have:=N r H;simp only[AV.bG,aam]at this;exact this c hc)
  exact⟨C,λ_=>rfl,run_firstCells_some w S (Q rows) ⟨bl,of,K⟩ (Q rows) c xs y M,run_firstCells_some w.drew S (Q rows) ⟨bl,of,K⟩ (Q rows) c xs y (by simpa using M),y,W⟩
 have eE:∀s,bJ w G (.eE s rows) v->∃xs,dm w G rows.flatten xs/\Go.Src P S T v (Q rows) xs w/\(∀r∈rows,AV.bG r=Y)/\(∀r∈rows,AV.fT r=Y)/\((∀id D,a≠.mu id D)->∀r∈rows,AV.aD r=Y):=by
  intro s h;have B:∃a n c,v=.slice (Z a) n c:=by cases h;exact⟨_,_,_,rfl⟩
  obtain⟨m,n,c,rfl⟩:=B;obtain⟨e1,e2,e3,e4,e5,e6,xs,e7,e8⟩:=Qx h;subst e1;exact⟨xs,e7,slice m c xs e2 e7 e8 e6,e6,e4,λ_=>e5⟩
 have F:rows=[]->∀c,v=.slice K 0 c->∃xs,dm w G rows.flatten xs/\Go.Src P S T v (Q rows) xs w/\(∀r∈rows,AV.bG r=Y)/\(∀r∈rows,AV.fT r=Y)/\((∀id D,a≠.mu id D)->∀r∈rows,AV.aD r=Y):=by
  intro B c hv;subst B;subst hv;exact⟨[],⟨rfl,λi c v h=>by simp at h⟩,⟨C,λ_=>rfl,run_firstCells_none w S 0 0 c,run_firstCells_none w.drew S 0 0 c,by simp,λu hu=>by cases hu⟩,by simp,by simp,by simp⟩
 unfold dO at g;split at g
 ·rename_i l;cases g;obtain⟨s,rfl,rfl⟩:=h.qK;refine⟨byteCells s,?_,?_,?_,?_,?_⟩;rw[Ye];unfold byteCells;refine⟨by simp,λi c v O t=>?_⟩;simp only[aaz,adM]at O t;obtain⟨b,O,rfl⟩:=O;obtain⟨b',t,rfl⟩:=t;rw[O]at t;cases t;exact .int _ _;have p:Q (qY s.data.toList)=s.size:=by simp[qY]
  rw[p];have one:∀u∈byteCells s,u.oneCell'=Y:=λu hu=>by
   obtain⟨_,_,rfl⟩:=aap.1 hu
   rfl
  by_cases hs:S=1;subst hs;exact⟨C,λ_=>rfl,firstCells_string s w,firstCells_string s w.drew,by rw[byteCells_length,Nat.mul_one],one⟩;have B:s.size=0:=by
   rcases Nat.eq_zero_or_pos s.size with h|h;exact h;have t:s.data.toList≠[]:=by
    intro h3;have:Q s.data.toList=s.size:=by simp
    rw[h3]at this;simp at this;omega
   obtain⟨b,l,y⟩:=List.exists_cons_of_ne_nil t;rw[y]at R;simp[cy,qY]at R;exact bH R.1.symm hs
  have NQ:byteCells s=[]:=by
   apply aau;rw[byteCells_length,B]
  have L:∀w',(Builtin.firstCells S s.size (.string s)).run P w'=.ok (byteCells s).toArray w':=λw'=>firstCells_string s w';exact⟨C,λ_=>rfl,L w,L w.drew,by rw[NQ,B,aoP];rfl,one⟩;all_goals
   intros
   rename_i H;simp only[qY,aap]at H;obtain⟨b,_,rfl⟩:=H;simp[AV.bG,AV.cT,AV.fT,AV.dw,AV.aD,AV.aH]
 ·rename_i id D;split at g
  ·rename_i z H;cases g;simp only[fO]at H;split at H
   ·rename_i v' s avC iX;split at H
    ·rename_i hv;cases H;obtain⟨loc,y,Gy,HI,J⟩:=hI.loc iX;cases h with
     |mu _ _ _ loc' hp xE Dw he=>
      rw[y]at xE;cases xE;have hve:D=loc.di:=(by omega);have q:=he hve;rw[J.len]at q;have N:∀r∈z.map AV.cP,AV.bG r=Y:=λr H=>by
       obtain⟨r',DA,rfl⟩:=aap.1 H;rw[wJ];exact J.IU r' DA
      have eC:∀r∈z.map AV.cP,AV.fT r=Y:=λr H=>by
       obtain⟨r',DA,rfl⟩:=aap.1 H;exact jr r'
      rcases J.uQ with⟨B,uo,_⟩|⟨b,off,c,e',Tx,iK,ir,hle,p,kJ,fU⟩
      ·subst uo;simp only[List.length_nil]at q;cases E:loc.a with
       |none=>
        rw[E]at q;exact F (by simp) _ q
       |some m=>
        refine⟨[],⟨rfl,λi c v h=>by simp at h⟩,⟨C,λ_=>by rw[q];simp[Builtin.lenOf],?_,?_,by simp,by simp⟩,N,eC,λh=>bH rfl (h id D)⟩;all_goals
         rw[q,E];simp[Builtin.firstCells,loadCells,loadCellsFrom]
      rw[Tx]at q;subst q;have I:dm w G (z.map AV.cP).flatten loc.vals.flatten:=by
       rw[DS];exact(zW z loc.vals J.yE.symm J.y5).aj
      have VJ:∀r∈loc.vals,Q r=s:=λr H=>by
       obtain⟨i,hi,rfl⟩:=aav.1 H;have lG:i<Q z:=(by rw[<-J.yE];exact hi);rw[<-(J.y5 i z[i] loc.vals[i] (aae lG) (aae hi)).1];exact dx.1 J.zR _ (aah lG)
      have:=slice ⟨b,off,K⟩ loc.cap loc.vals.flatten rfl I (λk x U=>by
       obtain⟨i,j,r,rfl,e2,e3⟩:=ur loc.vals k x VJ U;exact fU i r j x e2 e3) N
      simp only[List.length_map]at this ⊢;exact⟨_,I,this,N,eC,λh=>bH rfl (h id D)⟩
    cases H
   cases H
  cases g
 ·rename_i VK hn2;unfold fO at g;split at g;cases g;cases h;exact F rfl _ rfl
  ·cases g;cases h;rename_i m;refine⟨[],⟨rfl,λi c v h=>by simp at h⟩,⟨C,λ_=>rfl,?_,?_,by simp,by simp⟩,by simp,by simp,by simp⟩;all_goals simp[Builtin.firstCells,loadCells,loadCellsFrom]
  cases g;exact eE _ h;cases g;exact eE _ h.aj;rename_i id D;exact bH rfl (hn2 id D);cases g
end Ax
namespace Ax
open Go
variable {P:Program}{w w':World}{G G':bT}{β jE:List wj}{ρ:Operand->Value}{o:Oper}
theorem jU(g p t vs g9 w)(U:w.heap[g]?=Z (.cells g9 t (0,0)))(H:p+Q vs<=g9.size)(h:∀v∈vs,v.oneCell'=Y):
  (storeCells ⟨g,p,K⟩ vs).run P w=.ok () (w.setRow g (aB g9.toList p vs).toArray):=by
 have:=run_storeCells_at P g p t vs 0 g9 w U (by simpa using H) h;rw[mS _ _ _ (by simpa using H)];simpa using this
structure Wr (w:World)(G:bT)(w':World)(G':bT)(b:Nat):Prop where
 size:w'.heap.size=w.heap.size
 heap:∀b',b'≠b->w'.heap[b']?=w.heap[b']?
 af4:∀b',b'≠b->G'.qi b'=G.qi b'
 qi:∃p p',G.qi b=some p/\G'.qi b=some p'/\p<=p'/\∀o,o<p->w'.cell? ⟨b,o,none⟩=w.cell? ⟨b,o,none⟩
 gm:∀(id:Nat) loc,G.ls[id]?=some loc->∃loc',G'.ls[id]?=some loc'/\loc.di<=loc'.di/\(loc.di=loc'.di\/loc.mp=true->loc'.hd=loc.hd)
theorem Wr.lY{b}(h:Wr w G w' G' b):xO w G w' G' where
 imm:=λB o hi=>by
  by_cases l:B=b;subst l;obtain⟨p,r,g,k,n,m⟩:=h.qi;have ho:=hi.2 p g;refine⟨m o ho,by rw[h.size];exact hi.1,λq H=>?_⟩;rw[k]at H;cases H;omega;refine⟨vD (h.heap B l),by rw[h.size];exact hi.1,λp j=>?_⟩;rw[h.af4 B l]at j;exact hi.2 p j
 gm:=h.gm
theorem Wr.l6{b B}(h:Wr w G w' G' b)(l:B≠b):fY w G w' G' B:=⟨h.af4 B l,h.heap B l⟩
theorem JS(G:bT):∀(id:Nat) loc,G.ls[id]?=Z loc->∃l,G.ls[id]?=Z l/\loc.di<=l.di/\(loc.di=l.di\/loc.mp=Y->l.hd=loc.hd):=λ_ loc h=>⟨loc,h,aal _,λ_=>rfl⟩
def bT.at(G:bT)(id:Nat)(loc:yD):bT:=⟨G.ls.set id loc,G.qi⟩
theorem JT{id loc loc'}(j:G.ls[id]?=Z loc)(p:loc.di<=loc'.di)(N:loc.di=loc'.di\/loc.mp=Y->loc'.hd=loc.hd):∀(i:Nat) l,G.ls[i]?=Z l->∃g,(G.at id loc').ls[i]?=Z g/\l.di<=g.di/\(l.di=g.di\/l.mp=Y->g.hd=l.hd):=by
 intro i l h;by_cases H:i=id;subst H;rw[j]at h;cases h;exact⟨loc',by simp only[bT.at];rw[aaD,af rfl,af (aad.1 j).1],p,N⟩;exact⟨l,by simp only[bT.at];rw[aaD,U (λe=>H e.symm)];exact h,aal _,λ_=>rfl⟩
theorem TD{id loc loc'}(H:G.ls[id]?=Z loc)(p:loc.di<=loc'.di)(N:loc.di=loc'.di\/loc.mp=Y->loc'.hd=loc.hd):xO w G w (G.at id loc'):=
 ⟨λ_ _ h=>⟨rfl,h⟩,JT H p N⟩
theorem IX{st}(j:mH w G st)(hs:xO w G w' G'){id L q}(y:G'.ls=G.ls.set id L)(k:∀i l O b,i≠id->G.ls[i]?=Z l->st[i]?=Z O->0<kN b l O->fY w G w' G' b)(v:uR w' G' q L)(ht:∀b p,G'.qi b=Z p->b<w'.heap.size):mH w' G' (st.set id q) where
 len:=by rw[y];simp[j.len]
 bX:=λi O loc h H=>by
  rw[y]at H;rw[aaD]at h H;by_cases hi:id=i;subst hi;rw[af rfl]at h H;split at h;split at H;cases h;cases H;exact v;cases H;cases h;rw[U hi]at h H;exact(j.bX i O loc h H).lY hs λb g=>k i loc O b (λe=>hi e.symm) H h g
 qT:=ht
theorem BO{st}(j:mH w G st)(hs:xO w G w' G')(y:G'.ls=G.ls)(g:∀b,0<dh b G.ls st->fY w G w' G' b)(ht:∀b p,G'.qi b=Z p->b<w'.heap.size):mH w' G' st where
 len:=by rw[y];exact j.len
 bX:=λi O loc h H=>by
  rw[y]at H;refine(j.bX i O loc h H).lY hs λb l=>g b ?_;have:=rS b G.ls st i loc O H h;omega
 qT:=ht
theorem rj{bx}(m:ny w G β bx)(hs:xO w G w' G')(l:∀b,0<ja b β bx->fY w G w' G' b):ny w' G' β bx where
 len:=m.len
 box:=λj h g H k=>(m.box j h g H k).lY hs λb n=>l b (by
  have:=rT b β bx j g h k H;omega)
theorem Wr.qT{b st}(h:Wr w G w' G' b)(j:mH w G st):∀b p,G'.qi b=Z p->b<w'.heap.size:=by
 intro B p H;rw[h.size];by_cases l:B=b;subst l;obtain⟨q,k,g,_⟩:=h.qi;exact j.qT _ _ g;rw[h.af4 B l]at H;exact j.qT _ _ H
theorem JU{b p r g9 e q vs ls}(U:w.heap[b]?=Z (.cells g9 e (0,0)))(hl:q+Q vs<=g9.size)(ht:G.qi b=Z p)(g:p<=q)(L:p<=r)(I:∀(id:Nat) loc,G.ls[id]?=Z loc->∃loc',ls[id]?=Z loc'/\loc.di<=loc'.di/\(loc.di=loc'.di\/loc.mp=Y->loc'.hd=loc.hd)):
  Wr w G (w.setRow b (aB g9.toList q vs).toArray) ⟨ls,λB=>if B=b then Z r else G.qi B⟩ b where
 size:=setRow_size _ _ _
 heap:=λB l=>setRow_other w b B _ l
 af4:=λB l=>by simp[l]
 qi:=⟨p,r,ht,by simp,L,λo ho=>by
  rw[cell_setRow_same w b o g9 _ e (0,0) U];have:w.cell? ⟨b,o,K⟩=g9[o]?:=by simp[World.cell?,U]
  rw[this,akS,lZ _ _ _ _ (by simpa using hl),ah];simp⟩
 gm:=I
theorem xT{b q k g9 e vs}(U:w.heap[b]?=Z (.cells g9 e (0,0)))(H:q+Q vs<=g9.size):
  (w.setRow b (aB g9.toList q vs).toArray).cell? ⟨b,k,K⟩=if q<=k/\k<q+Q vs then vs[k-q]? else w.cell? ⟨b,k,K⟩:=by
 rw[cell_setRow_same w b k g9 _ e (0,0) U];have:w.cell? ⟨b,k,K⟩=g9[k]?:=by simp[World.cell?,U]
 rw[this,akS,lZ _ _ _ _ (by simpa using H)];simp
structure TE (P:Program)(t tx e:TypeId)(sz bytes:Nat)(i:TypeInfo)(z:Value):Prop where
 ht:P.underlying t=some (.slice e)
 hi:P.info? e=some i
 hz:i.zero=some z
 fM:i.size=sz
 hby:i.bytes=bytes
 hzs:z.cells.size=sz
 pos:0<sz
 aaR:0<bytes
 kind:(∃e',P.underlying tx=some (.slice e'))\/P.underlying tx=some .string
theorem VL{n bytes:Nat}(h:n*bytes<=140737488355328)(l:0<bytes):(n:Int)<=9223372036854775807:=by
 have:n<=n*bytes:=Nat.le_mul_of_pos_right n l;omega
theorem wK{t T ty e s bytes i z}(h:TE P t T e s bytes i z)(b off j g g9 E)(U:w.heap[b]?=Z (.cells g9 E (0,0)))(x n N)(H:Go.Src P s T x n N w)(W:j+n<=g)(F:off+g*s<=g9.size):
  (Builtin.append_ #[t,T] ty #[.slice (Z ⟨b,off,K⟩) j g,x]).run P w=.ok (.slice (Z ⟨b,off,K⟩) (j+n) g) (w.setRow b (aB g9.toList (off+j*s) N).toArray):=by
 have k:off+j*s+Q N<=g9.size:=by
  rw[H.newsLen];have:(j+n)*s<=g*s:=aeb _ W;rw[ajx]at this;omega
 have I:=jU (P:=P) b (off+j*s) E N g9 w U k H.one;have l:=H.cells;have O:=h.fM;subst O;rcases H.kind with⟨p,m⟩|m<;>simp[Builtin.append_,ct h.ht,ct m,Go.sizeOf,typeInfo,h.hi,H.len,W,l,Addr.add_lit,I]
theorem wM{t T ty e s bytes i z}(h:TE P t T e s bytes i z)(base j g O)(H:(Builtin.firstCells s j (.slice base j g)).run P w.drew=.ok O.toArray w.drew)(m:Q O=j*s)(x n N)(q:Go.Src P s T x n N w)(U:g<j+n)(p:(j+n)*bytes<=140737488355328):
  ∃cap c,(Builtin.append_ #[t,T] ty #[.slice base j g,x]).run P w=.ok (.slice (Z ⟨w.heap.size,0,K⟩) (j+n) cap) (w.drew.alloc (.cells c e))/\j+n<=cap/\cap*s<=c.size/\
   ∀(k:Nat) v,(O++N)[k]?=Z v->c[k]?=Z v:=by
 have F:=h.fM;subst F;have l:=h.hby;subst l;refine⟨_,_,run_append_grow_src w t T ty e i z h.ht h.hi h.hz base j g O H x n N q U (VL p h.aaR) (growslice_fits U p),grownCap_ge _ _ _ _,?_,λk v r=>?_⟩;have B:=grownCap_ge w (j+n) g e;rw[amM,size_zeroCells,h.hzs];simp only[ahm,aaq,m,q.newsLen];rw[<-ajx,<-ajx];exact aeb _ (by omega);have y:=(aad.1 r).1;rw[Array.getElem?_append,af (by simpa using y)];simpa using r
theorem Mt(a):w.drew.cell? a=w.cell? a:=rfl
theorem dm.LY{rows:List _}(h:∀r∈rows,AV.bG r=Y):AV.bG rows.flatten=Y:=by
 simp only[AV.bG,aam];intro c H;obtain⟨r,g,H⟩:=ahY.1 H;have:=h r g;simp only[AV.bG,aam]at this;exact this c H
theorem BP{sz a b}(h:cy sz a=Y)(k:cy sz b=Y):cy sz (a++b)=Y:=by
 rw[dx]at *;intro r H;rcases aaw.1 H with p|p;exact h r p;exact k r p
theorem tS{a b:List _}{p:List AV->Prop}(h:∀r∈a,p r)(k:∀r∈b,p r):∀r∈a++b,p r:=by
 intro r g;rcases aaw.1 g with H|H;exact h r H;exact k r H
theorem aaS{t tx ty e sz bytes i z}(h:TE P t tx e sz bytes i z){st p}(y:mH w G st)(U:ny w G β p){cO}(hX:∀b,cO b+ja b β p+dh b G.ls st<=1){s x vs l}(J:bJ w G s vs)(D:bJ w G x l)(mT:∀b,iI b s vs<=cO b){wl ai st' iJ r}(H:bD wl ai (.append sz bytes) [.val s,.val x] st p=Z (r,st',iJ)):
  ∃v w' G',(Builtin.append_ #[t,tx] ty #[vs,l]).run P w=.ok v w'/\mj w G β st p cO w' G' β st' iJ r v:=by
 simp only[bD]at H;split at H;cases H
 ·rename_i new vE;split at H
  ·rename_i cF;have Qz:∀id di,x≠.mu id di:=by
    intro id di D;subst D;simp[dO,fO]at vE
   have aqp:dO st x=Z new:=by
    unfold dO at vE ⊢;cases x<;>simp_all [fO]
   obtain⟨N,T,W,lB,eC,tQ⟩:=GA y D aqp cF h.kind;have tQ:=tQ Qz;have fresh:∀base,(Builtin.firstCells sz 0 (.slice base 0 0)).run P w.drew=.ok ([]:List Value).toArray w.drew->new≠[]->Q new*bytes<=dj->
     ∃v w' G',(Builtin.append_ #[t,tx] ty #[.slice base 0 0,l]).run P w=.ok v w'/\mj w G β st p cO w' G' β st p (.val (.iY sz new)) v:=by
    intro base hf iT g;have hn:0<Q new:=afr.2 iT;obtain⟨cap,c,E,S,e3,e4⟩:=wM (ty:=ty) h base 0 0 [] hf (by simp) l (Q new) N W (by omega) (by simpa [dj] using g);simp only[afZ,aeN]at E S e4;obtain⟨G',hA⟩:=NP (w':=w.drew.alloc (.cells c e)) (cO:=cO) y U rfl rfl rfl cF lB eC tQ T e3 S e4;exact⟨_,_,G',E,hA⟩
   split at H;split at H;rename_i q;cases H;have h0:new=[]:=(by simpa using q);subst h0;cases J;have hn:N=[]:=by
    have:=T.1;simp at this;exact aau this.symm
   subst hn;have:=run_append_nothing w t tx ty e i h.ht h.hi K 0 0 (aal _) l (by rw[h.fM];exact W);exact⟨_,_,_,this,mj.ri y U (bJ.aF) λb=>by simp[dH,iI]⟩;rename_i q;split at H;rename_i g;cases H;cases J;exact fresh K (run_firstCells_none _ _ _ _ _) (by simpa using q) g;cases H
   ·split at H
    ·rename_i q;cases H;have h0:new=[]:=(by simpa using q);subst h0;have hn:N=[]:=by
      have:=T.1;simp at this;exact aau this.symm
     subst hn;cases J with
     |pP a=>
     have:=run_append_nothing w t tx ty e i h.ht h.hi (Z a) 0 0 (aal _) l (by rw[h.fM];exact W);exact⟨_,_,_,this,mj.ri y U (bJ.pP a) λb=>by simp[dH,iI]⟩
    ·rename_i q;split at H
     ·rename_i g;cases H;cases J with
      |pP a=>
      exact fresh (Z a) (by simp[Builtin.firstCells,loadCells,loadCellsFrom]) (by simpa using q) g
     cases H
   ·rename_i n kF;split at H
    ·rename_i hc;simp only[E6,aC]at hc;obtain⟨rfl,g⟩:=hc;cases H;have hv:=J.aj;cases J with
     |iY _ _ a cap oQ iK hfo m M R NQ hr0 kJ je=>
     simp only[AV.aj]at hv;obtain⟨_,_,_,_,_,_,O,C,F⟩:=Qx hv;obtain⟨b,off,sp⟩:=a;simp only at oQ kJ je F;subst oQ;have hol:Q O=Q kF*n:=(by rw[<-C.1];exact iB kF (dx.1 hfo));have hnl:Q N=Q new*n:=W.newsLen;have mh:=BP hfo cF;have xU:(kF++new).flatten=kF.flatten++new.flatten:=aj9;by_cases wL:Q kF+Q new<=cap;obtain⟨c,e0,hg,L⟩:=je;have hle:off+Q kF*n+Q N<=c.size:=by
      rw[hnl];have:(Q kF+Q new)*n<=cap*n:=aeb _ wL;rw[ajx]at this;omega
     have E:=wK (ty:=ty) h b off (Q kF) cap c e0 hg l (Q new) N W wL L;have I:Wr w G (w.setRow b (aB c.toList (off+Q kF*n) N).toArray) ⟨G.ls,λB=>if B=b then Z (off+Q (kF++new)*n) else G.qi B⟩ b:=
      JU hg hle kJ (aal _) (by rw[aaq,ajx];omega) (JS G)
     have qj:cO b=1/\ja b β p=0/\dh b G.ls st=0:=by
      have h1:=hX b;have h2:=mT b;simp only[iI,bz]at h2;omega
     have QB:∀B,B≠b->fY w G _ _ B:=λB hb=>I.l6 hb;refine⟨_,_,⟨G.ls,λB=>if B=b then Z (off+Q (kF++new)*n) else G.qi B⟩,E,?_⟩;have aqs:dm (w.setRow b (aB c.toList (off+Q kF*n) N).toArray) ⟨G.ls,λB=>if B=b then Z (off+Q (kF++new)*n) else G.qi B⟩ (kF++new).flatten (O++N):=by
      rw[xU];refine(C.append T).mono I.lY λB sP=>?_;rw[<-xU,fD B _ _ ((dG _).2 λx D=>?_)]at sP;omega;obtain⟨r,g,D⟩:=ahY.1 D;exact(dG r).1 (tS m eC r g) x D
     have ir:=setRow_heap w b c (aB c.toList (off+Q kF*n) N).toArray e0 (0,0) hg;have hrv:=NO (cap:=cap) mh (tS R lB) (tS m eC) (tS M tQ) aqs ir (by rw[ahm,fQ];simpa using L) (by simpa using wL) (by simp) (λk x hk=>by
      rw[akS,lZ _ _ _ _ (by simpa using hle)];by_cases uS:k<Q O;rw[aaj uS]at hk;rw[ah];have:=F k x hk;simpa [World.cell?,hg] using this;rw[aak (by omega)]at hk;have bK:=(aad.1 hk).1;rw[dM];rw[show off+k-(off+Q kF*n)=k-Q O by omega];exact hk)
     refine⟨I.lY,BO y I.lY rfl (λB sP=>QB B ?_) (I.qT y),rj U I.lY λB sP=>QB B ?_,by rw[<-aaq];exact hrv,λB=>?_,λB sP _=>QB B ?_,by simp,rfl,rfl⟩;intro e;subst e;omega;intro e;subst e;omega;have h2:=mT B;simp only[iI]at h2;simp only[dH,iI];omega;intro e;subst e;omega;have DA:(Q kF+Q new)*bytes<=140737488355328:=g;have hf:(Builtin.firstCells n (Q kF) (.slice (Z ⟨b,off,K⟩) (Q kF) cap)).run P w.drew=.ok O.toArray w.drew:=
      run_firstCells_some w.drew n (Q kF) ⟨b,off,K⟩ (Q kF) cap O hol (λj v hj=>by rw[oU,Mt];exact F j v hj)
     obtain⟨aaT,c,E,S,e3,e4⟩:=wM (ty:=ty) h (Z ⟨b,off,K⟩) (Q kF) cap O hf hol l (Q new) N W (by omega) DA;rw[<-aaq]at E S;obtain⟨G',hA⟩:=NP (w':=w.drew.alloc (.cells c e)) (cO:=cO) y U rfl rfl rfl mh (tS R lB) (tS m eC) (tS M tQ) (by rw[xU];exact C.append T) e3 S e4;exact⟨_,_,G',E,hA⟩
    cases H
   cases H
  cases H
end Ax
namespace Ax
open Go
variable {P:Program}{w w':World}{G G':bT}{β jE:List wj}{ρ:Operand->Value}{o:Oper}
theorem xV{st B cO}(x:mH w G st)(t:ny w G β B)(L:∀b,cO b+ja b β B+dh b G.ls st<=1){id loc loc' O j e v}(H:G.ls[id]?=Z loc)(I:st[id]?=Z O)(m:xO w G w' G')(y:G'.ls=G.ls.set id loc')(E:uR w' G' j loc')(C:∀b p,G'.qi b=Z p->b<w'.heap.size)(q:∀b,b<w.heap.size->loc.lz≠Z b->fY w G w' G' b)(k:w.heap.size<=w'.heap.size)(T:w'.os=w.os)(D:w'.output=w.output)(F:nX w' G' β e v)(N:∀b,dH b e v+kN b loc' j<=cO b+kN b loc O+(if w.heap.size<=b then 1 else 0)):mj w G β st B cO w' G' β (st.set id j) B e v:=by
 have M:∀b,loc.lz=Z b->kN b loc O ≥ 1:=by
  intro b h;cases O<;>simp[kN,h]
 refine⟨m,IX x m y (λi l g b hi n r z=>?_) E C,rj t m λb h=>?_,F,λb=>?_,λb h R=>?_,k,T,D⟩;refine q b ((x.bX i g l r n).held z) λh=>?_;have s:=Qs b G.ls st i id l g loc O hi n r H I
 grind
 refine q b (t.held h) λS=>?_;have s:=rS b G.ls st id loc O H I
 grind
 grind [BI]
 refine q b R λS=>?_;have J:=M b S;have s:=rS b G.ls st id loc O H I;omega
theorem BG.flat{sz rows loc}(h:BG w G sz rows loc):dm w G rows.flatten loc.vals.flatten/\(∀b,cV b rows.flatten loc.vals.flatten=iM b rows loc.vals)/\(∀r∈loc.vals,Q r=sz)/\
  ∀b off,(∀i xs j x,loc.vals[i]?=Z xs->xs[j]?=Z x->w.cell? ⟨b,off+(i*sz+j),K⟩=Z x)->∀k x,loc.vals.flatten[k]?=Z x->w.cell? ⟨b,off+k,K⟩=Z x:=by
 have v:∀r∈loc.vals,Q r=sz:=λr n=>by
  obtain⟨i,m,rfl⟩:=aav.1 n;have l:i<Q rows:=by rw[<-h.yE];omega
  rw[<-(h.y5 i _ _ (aae l) (aae m)).1];exact dx.1 h.zR _ (aah l)
 refine⟨zW rows loc.vals h.yE.symm h.y5,λb=>ET b rows loc.vals h.yE.symm λi r xs H g=>(h.y5 i r xs H g).1,v,λb off s k x p=>?_⟩;obtain⟨i,j,r,rfl,E,q⟩:=ur loc.vals k x v p
 grind
theorem aaV{st B cO}(j:mH w G st)(n:ny w G β B){sz a}(s:a.isSome=Y):
  ∃G',mj w G β st B cO w G' β (st++[.rows 0 sz []]) B (.val (.mu (Q st) 0)) (.slice a 0 0):=by
 have l:∀(id:Nat) loc,G.ls[id]?=Z loc->∃loc',(G.ls++[⟨a,0,0,sz,0,X,[]⟩])[id]?=Z loc'/\loc.di<=loc'.di/\(loc.di=loc'.di\/loc.mp=Y->loc'.hd=loc.hd):=λid loc h=>
  ⟨loc,by grind,aal _,λ_=>rfl⟩
 have k:xO w G w ⟨G.ls++[⟨a,0,0,sz,0,X,[]⟩],G.qi⟩:=⟨λ_ _ h=>⟨rfl,h⟩,l⟩;refine⟨⟨G.ls++[⟨a,0,0,sz,0,X,[]⟩],G.qi⟩,k,⟨by simp[j.len],λid O loc H g=>?_,j.qT⟩,rj n k λb _=>⟨rfl,rfl⟩,.mu _ _ _ ⟨a,0,0,sz,0,X,[]⟩ ⟨_,_,_,rfl⟩ ?_ (aal _) λ_=>rfl,λb=>?_,λb _ _=>⟨rfl,rfl⟩,aal _,rfl,rfl⟩;by_cases I:id<Q st;rw[aaj I]at H;rw[aaj (by rw[j.len];omega)]at g;exact(j.bX id O loc H g).lY k λb _=>⟨rfl,rfl⟩;rw[aak (by omega)]at H;rw[aak (by rw[j.len];omega),j.len]at g;have m:id-Q st=0:=by grind
 rw[m]at H g;simp at H g;subst H;subst g;exact⟨rfl,rfl,by rfl,by simp,rfl,rfl,rfl,λi r x h=>by simp,.inl ⟨rfl,rfl,s⟩⟩;simp;rw[aak (by rw[j.len];grind),j.len];simp;simp only[dH,iI];rw[xP b _ _ _ _ j.len]
 grind [dh,kN,yD.lz,iM]
structure akX (P:Program)(t tx ty e:TypeId)(sz bytes:Nat)(x:Value)(n:Nat)(news:List Value)(w:World):Prop where
 newsLen:news.length=n*sz
 IY:n=0->∀base jF nI,jF<=nI->(Builtin.append_ #[t,tx] ty #[.slice base jF nI,x]).run P w=.ok (.slice base jF nI) w
 dj:∀(b off jF nI:Nat) (g9:Array Value) (e0:TypeId),w.heap[b]?=some (.cells g9 e0 (0,0))->jF+n<=nI->off+nI*sz<=g9.size->
  (Builtin.append_ #[t,tx] ty #[.slice (some ⟨b,off,none⟩) jF nI,x]).run P w=.ok (.slice (some ⟨b,off,none⟩) (jF+n) nI) (w.setRow b (aB g9.toList (off+jF*sz) news).toArray)
 new:∀(base:Option Addr) (jF nI:Nat) (olds:List Value),(Builtin.firstCells sz jF (.slice base jF nI)).run P w.drew=.ok olds.toArray w.drew->olds.length=jF*sz->nI<jF+n->(jF+n)*bytes<=140737488355328->
  ∃cap c,(Builtin.append_ #[t,tx] ty #[.slice base jF nI,x]).run P w=.ok (.slice (some ⟨w.heap.size,0,none⟩) (jF+n) cap) (w.drew.alloc (.cells c e))/\jF+n<=cap/\cap*sz<=c.size/\
   ∀(k:Nat) v,(olds++news)[k]?=some v->c[k]?=some v
theorem aaW{t tx ty e sz bytes i z}(h:TE P t tx e sz bytes i z){x n N}(hs:Go.Src P sz tx x n N w):akX P t tx ty e sz bytes x n N w where
 newsLen:=hs.newsLen
 IY:=λB base j g k=>by
  subst B;have hn:=aau (by simpa using hs.newsLen);subst hn;exact run_append_nothing w t tx ty e i h.ht h.hi base j g k x (by rw[h.fM];omega)
 dj:=λb off j g g9 E U l p=>wK h b off j g g9 E U x n N hs l p
 new:=λbase j g O H m U q=>wM h base j g O H m x n N hs U q
theorem NR(z n s)(h:z.size=s):(Builtin.zeroCells z n).toList=((aof (n*s)).map (z[· % z.size]!)).toList:=by
 subst h;rfl
theorem TF{t W ty e D bytes i z}(y:P.underlying t=Z (.slice e))(p:∃k,P.underlying W=Z (.int k))(s:P.info? e=Z i)(L:i.zero=Z z)(fM:i.size=D)(F:i.bytes=bytes)(S:z.cells.size=D)(pos:0<D)(E:0<bytes){n:Int}(h0:0<=n)(hr:n*bytes<=140737488355328)(w)(qj:∀u∈(Builtin.zeroCells z.cells n.toNat).toList,u.oneCell'=Y):
  akX P t W ty e D bytes (.int .i64 n) n.toNat (Builtin.zeroCells z.cells n.toNat).toList w:=by
 have ⟨k,p⟩:=p;subst fM;subst F;have I:n<=140737488355328:=by
  have:n*1<=n*i.bytes:=Int.mul_le_mul_of_nonneg_left (by omega) (by omega);omega
 have B:=IntWalk.i64_in n ⟨by omega,by omega⟩;have g:¬n<0:=by omega
 have l:¬(281474976710656<n*i.bytes):=by omega
 have m:Q (Builtin.zeroCells z.cells n.toNat).toList=n.toNat*i.size:=by rw[Array.length_toList,size_zeroCells,S]
 refine⟨m,λT base j N x=>?_,λb off j N g9 T U C h2=>?_,λbase j N O H J U hb=>?_⟩;have M:n=0:=by omega
 subst M;cases base<;>simp[Builtin.append_,ct y,ct p,Go.sizeOf,typeInfo,s,asInt,asIntOf,B,x,storeCells];have x:off+j*i.size+n.toNat*i.size<=g9.size:=by
  have:(j+n.toNat)*i.size<=N*i.size:=aeb _ C
  grind
 have R:=jU (P:=P) b (off+j*i.size) T _ g9 w U (by grind) qj;by_cases h:n.toNat*i.size=0;have M:(Builtin.zeroCells z.cells n.toNat).toList=[]:=aau (by grind);rw[M]at R ⊢;simp[Builtin.append_,ct y,ct p,Go.sizeOf,typeInfo,s,asInt,asIntOf,B,g,l,h,C,Addr.add_lit,R];simp[Builtin.append_,ct y,ct p,Go.sizeOf,typeInfo,zeroValue,s,L,asInt,asIntOf,B,g,l,h,C,Addr.add_lit,R];have I:¬(j+n.toNat<=N):=by omega
 have h63:¬(9223372036854775807<((j:Int)+n.toNat)):=by have:=VL hb E;omega
 have q:¬(9223372036854775807<(j+max n 0)):=by omega
 have r:¬(281474976710656<Builtin.nextslicecap (j+n.toNat) N*i.bytes):=by simp_all [growslice_fits]
 refine⟨grownCap w _ N e,(O++(Builtin.zeroCells z.cells n.toNat).toList).toArray++Builtin.zeroCells z.cells (grownCap w (j+n.toNat) N e-(j+n.toNat)),?_,grownCap_ge _ _ _ _,?_,λk v hv=>?_⟩;by_cases h:n.toNat*i.size=0;have M:(Builtin.zeroCells z.cells n.toNat).toList=[]:=aau (by grind);rw[M];simp[Builtin.append_,ct y,ct p,Go.sizeOf,typeInfo,zeroValue,s,L,asInt,asIntOf,B,g,l,I,q,r,h,Question.forced,H,newRow,grownCap];simp[Builtin.append_,ct y,ct p,Go.sizeOf,typeInfo,zeroValue,s,L,asInt,asIntOf,B,g,l,I,q,r,h,Question.forced,H,newRow,grownCap];congr 2
 grind
 have C:=grownCap_ge w (j+n.toNat) N e;rw[amM,size_zeroCells,S];simp only[ahm,aaq,J,m];rw[<-ajx,<-ajx]
 grind
 grind
theorem aaX{t tx ty e sz bytes st M}(j:mH w G st)(R:ny w G β M){cO}(hX:∀b,cO b+ja b β M+dh b G.ls st<=1){s vs vx}(hs:bJ w G s vs){new N}(O:dm w G new.flatten N)(W:akX P t tx ty e sz bytes vx (Q new) N w)(lB:∀r∈new,AV.bG r=Y)(eC:∀r∈new,AV.fT r=Y){wl ai st' iJ r}(H:uN wl ai sz bytes s new st M=Z (r,st',iJ)):
  ∃v w' G',(Builtin.append_ #[t,tx] ty #[vs,vx]).run P w=.ok v w'/\mj w G β st M cO w' G' β st' iJ r v:=by
 unfold uN at H
 ·split at H
  ·rename_i cF;have Mu:∀b xs,cV b new.flatten xs=0:=λb xs=>fD b _ _ ((dG _).2 λx hx=>by
    grind [ahY,dG])
   have uo:new=[]->N=[]:=λy=>by
    subst y;have:=O.1;grind
   have fresh:∀base,(Builtin.firstCells sz 0 (.slice base 0 0)).run P w.drew=.ok ([]).toArray w.drew->Q new*bytes<=dj->(new=[]->base.isSome=Y)->
     ∃v w' G',(Builtin.append_ #[t,tx] ty #[.slice base 0 0,vx]).run P w=.ok v w'/\mj w G β st M cO w' G' β (st++[.rows 0 sz new]) M (.val (.mu (Q st) 0)) v:=by
    intro base hf U hbs;by_cases I:new=[];have:=uo I;subst this;subst I;have:=W.IY rfl base 0 0 (aal _);have ⟨G',hA⟩:=aaV (cO:=cO) (sz:=sz) j R (hbs rfl)
    grind
    have hn:=afr.2 I;have ⟨cap,c,e1,e2,e3,e4⟩:=W.new base 0 0 [] hf (by simp) (by omega) (by simpa [dj] using U);simp only[afZ,aeN]at *;have ⟨G',hA,_⟩:=BK (w':=w.drew.alloc (.cells c e)) (cO:=cO) j R rfl rfl rfl cF lB O (by omega) e3 e2 e4 (λb=>by grind)
    grind
   split at H;split at H;rename_i QA;cases H;have y:new=[]:=(by grind);have:=uo y;subst this;subst y;cases hs;have:=W.IY rfl K 0 0 (aal _);exact⟨_,_,_,this,mj.ri j R (bJ.aF) λb=>by simp[dH,iI]⟩;split at H;rename_i U;cases H;cases hs;simp_all [run_firstCells_none];cases H;split at H;rename_i U;cases H;cases hs with
   |pP a=>exact fresh _ (by simp[Builtin.firstCells,loadCells,loadCellsFrom]) U λ_=>rfl
   cases H
   ·rename_i id di;split at H
    ·rename_i v n kF iX;split at H
     ·rename_i hc;simp only[E6,aC]at hc;obtain⟨⟨⟨⟨rfl,rfl⟩,U⟩,_⟩,_⟩:=hc;cases H;have ⟨loc,T,Gy,HI,J⟩:=j.loc iX;cases hs with
      |mu _ _ _ loc' hp xE Dw he=>
      rw[T]at xE;cases xE;have sL:=he (by omega);subst sL;have ⟨D,C,hfv,aaY⟩:=J.flat;have It:∀E:yD,E.di=v+1->∀(i:Nat) l,G.ls[i]?=Z l->∃L,(G.at id E).ls[i]?=Z L/\l.di<=L.di/\(l.di=L.di\/l.mp=Y->L.hd=l.hd):=λE hv=>
       JT T (by omega) λh=>by grind
      have Gq:∀E:yD,(G.at id E).ls[id]?=Z E:=λE=>by
       simp[bT.at];grind
      by_cases I:new=[];have:=uo I;subst this;subst I;have m:loc.len<=loc.cap:=by
       rcases J.uQ with⟨y,h1,_⟩|⟨b,off,c,e',sX,iK,ir,fM,q,kJ,fU⟩;rw[J.len,h1];simp;rw[J.len];omega
      have:=W.IY rfl loc.a loc.len loc.cap m;have F:xO w G w (G.at id { loc with di:=v+1 }):=⟨λ_ _ h=>⟨rfl,h⟩,It _ rfl⟩;refine⟨_,_,G.at id _,this,xV j R hX T iX F rfl ?_ j.qT (λb _ _=>⟨rfl,rfl⟩) (aal _) rfl rfl (.mu _ _ _ _ ⟨_,_,_,rfl⟩ (Gq _) (aal _) λ_=>rfl) λb=>?_⟩;have:=(uR.lY (show uR w G (.rows v n kF) loc from⟨Gy,HI,J⟩) F λb _=>⟨rfl,rfl⟩);have ⟨_,_,z⟩:=this;simp;exact⟨Gy,rfl,z.zR,z.IU,z.len,z.size,z.yE,z.y5,z.uQ⟩;simp only[dH,iI,afB];show 0+kN b loc (.rows v n kF)<=cO b+kN b loc _+_;omega;have hn:=afr.2 I;have mh:=BP J.zR cF;have xU:(kF++new).flatten=kF.flatten++new.flatten:=aj9;have hol:Q loc.vals.flatten=Q kF*n:=(by rw[<-D.1];grind [iB,dx]);have hnl:=W.newsLen;by_cases wL:Q kF+Q new<=loc.cap;rcases J.uQ with⟨y,h1,_⟩|⟨b,off,c,e',sX,iK,ir,fM,q,kJ,fU⟩;omega;have m:off+Q kF*n+Q N<=c.size:=by
       rw[hnl];have:(Q kF+Q new)*n<=loc.cap*n:=aeb _ wL
       grind
      have e1:=W.dj b off (Q kF) loc.cap c e' ir wL fM;rw[sX,J.len];have aqu:=It ⟨Z ⟨b,off,K⟩,loc.cap,Q (kF++new),n,v+1,X,xG n (Q (kF++new)) (loc.vals.flatten++N)⟩ rfl;have S:=
       JU ir m kJ (Nat.zero_le _) (aal _) aqu
      have je:loc.lz=Z b:=(by unfold yD.lz;grind);refine⟨_,_,⟨(G.at id ⟨Z ⟨b,off,K⟩,loc.cap,Q (kF++new),n,v+1,X,xG n (Q (kF++new)) (loc.vals.flatten++N)⟩).ls,λB=>if B=b then Z 0 else G.qi B⟩,e1,?_⟩;refine xV j R hX T iX S.lY rfl ⟨rfl,rfl,rU (b:=b) (e:=e') mh (tS J.IU lB) ?_ rfl rfl rfl rfl iK (setRow_heap w b c _ e' (0,0) ir) (by grind [fQ]) (by grind) (by simp) λk x hk=>?_⟩
       (S.qT j) (λB _ sP=>S.l6 λe=>sP (by rw[je,e])) (by simp) rfl rfl (.mu _ _ _ _ ⟨_,_,_,rfl⟩ (Gq _) (aal _) λ_=>by simp) λB=>?_
      rw[xU];refine(D.mono S.lY λB sP=>S.l6 λe=>?_).append (O.mono S.lY λB sP=>by grind);subst e;rw[C]at *;have h1:=hX B;have h2:=rS B G.ls st id loc _ T iX;simp[kN,je]at h2;omega;rw[xT ir m];by_cases uS:k<Q loc.vals.flatten;rw[aaj uS]at hk
      grind
      rw[aak (by omega)]at hk;have bK:=(aad.1 hk).1;rw[dM,show off+k-(off+Q kF*n)=k-Q loc.vals.flatten by omega];omega;have QC:(⟨Z ⟨b,off,K⟩,loc.cap,Q (kF++new),n,v+1,X,xG n (Q (kF++new)) (loc.vals.flatten++N)⟩:yD).lz=loc.lz:=by
       rw[je];unfold yD.lz;grind
      simp only[dH,iI,kN];rw[QC,wH B _ _ (dx.1 mh) (by rw[xU,aaq,aaq,D.1,O.1]),xU,iL B _ _ _ _ D.1,Mu,C];omega;have hf:(Builtin.firstCells n loc.len (.slice loc.a loc.len loc.cap)).run P w.drew=.ok loc.vals.flatten.toArray w.drew:=by
       rcases J.uQ with⟨y,h1,_⟩|⟨b,off,c,e',sX,iK,ir,fM,q,kJ,fU⟩;have:loc.vals=[]:=by
        have:=J.yE;grind
       rw[J.len,h1,this];cases loc.a<;>simp[Builtin.firstCells,loadCells,loadCellsFrom];rw[sX,J.len]
       grind [run_firstCells_some,oU,Mt]
      have ⟨g,c,e1,e2,e3,e4⟩:=W.new loc.a loc.len loc.cap loc.vals.flatten hf (by rw[hol,J.len]) (by rw[J.len];omega) (by rw[J.len];exact U);rw[J.len,<-aaq]at e2;have hcp:0<g:=(by grind);have hw:(w.drew.alloc (.cells c e)).heap=w.heap.push _:=rfl;have hlN:(G.new w.heap.size (Z 0) []).ls[id]?=Z loc:=(by grind [bT.new]);have F:xO w G _ ((G.new w.heap.size (Z 0) []).at id ⟨Z ⟨w.heap.size,0,K⟩,g,Q (kF++new),n,v+1,X,xG n (Q (kF++new)) (loc.vals.flatten++N)⟩):=
       (xQ hw (Z 0) []).trans (TD hlN (by simp;omega) λh=>by grind)
      refine⟨_,_,_,e1,xV j R hX T iX F (loc':=⟨Z _,g,Q (kF++new),n,v+1,X,xG n _ (loc.vals.flatten++N)⟩) (by simp[bT.at,bT.new,afB]) ⟨rfl,rfl,rU (off:=0) (c:=c) (e:=e) mh (tS J.IU lB) ?_ rfl rfl rfl rfl hcp (wI hw) (by grind) e2 (by simp[bT.at,bT.new]) λk x hk=>?_⟩
       (λb p hp=>?_) (λb hb _=>?_) (by grind) rfl rfl (.mu _ _ _ _ ⟨_,_,_,rfl⟩ (by simp only[bT.at];rw[aaD,af rfl,af (aad.1 hlN).1]) (aal _) λ_=>by simp[J.len]) λB=>?_⟩
      rw[xU];exact(D.mono F λB sP=>jO hw _ [] (D.held sP)).append (O.mono F λB sP=>by grind);simp;grind [JQ];simp[bT.at,bT.new]at hp;simp;split at hp;omega;have:=j.qT b p hp;omega;exact jO hw _ [] hb;have QC:(⟨Z ⟨w.heap.size,0,K⟩,g,Q (kF++new),n,v+1,X,xG n (Q (kF++new)) (loc.vals.flatten++N)⟩:yD).lz=Z w.heap.size:=by
       unfold yD.lz;grind
      simp only[dH,iI,kN];rw[QC,wH B _ _ (dx.1 mh) (by rw[xU,aaq,aaq,D.1,O.1]),xU,iL B _ _ _ _ D.1,Mu,C]
      grind
     cases H
    cases H
   cases H
  cases H
theorem Yg{t T ty e sz bytes i z}(h:TE P t T e sz bytes i z){st B}(j:mH w G st)(m:ny w G β B){cO}(L:∀b,cO b+ja b β B+dh b G.ls st<=1){s x vs l}(n:bJ w G s vs)(p:bJ w G x l){C g S I r}(H:bD C g (.j8 sz bytes) [.val s,.val x] st B=Z (r,S,I)):
  ∃v w' G',(Builtin.append_ #[t,T] ty #[vs,l]).run P w=.ok v w'/\mj w G β st B cO w' G' β S I r v:=by
 simp[bD]at H;split at H;cases H;rename_i new y;by_cases F:cy sz new=Y;have ⟨N,k,W,q,E,_⟩:=GA j p y F h.kind;exact aaX j m L n k (aaW h W) q E H;simp_all [uN]
theorem Yh{t T ty e sz bytes}(ht:P.underlying t=Z (.slice e))(hk:∃k,P.underlying T=Z (.int k))(O:dD P e sz=Y)(W:tR P e bytes=Y){zero}(hz:sV P e zero=Y)(pos:0<sz)(E:0<bytes){st B}(N:mH w G st)(F:ny w G β B){cO}(R:∀b,cO b+ja b β B+dh b G.ls st<=1){s x vs q}(hs:bJ w G s vs)(hx:bJ w G x q){wl C g I r}(H:bD wl C (.xK sz bytes zero) [.val s,.val x] st B=Z (r,g,I)):
  ∃v w' G',(Builtin.append_ #[t,T] ty #[vs,q]).run P w=.ok v w'/\mj w G β st B cO w' G' β g I r v:=by
 simp[bD]at H;split at H;rename_i n heq;obtain⟨rfl,rfl⟩:=heq;split at H;rename_i hc;have ⟨D,j,l,tQ⟩:=hc;have ⟨i,z,p,J,M,X9,hzc⟩:=pQ hz w G;have ⟨i',L,y,_⟩:=oR O;rw[p]at L;cases L;have U:i.bytes=bytes:=by grind [tR]
 have S:z.cells.size=sz:=by rw[<-l,M.1];simp
 have h:=Gz (n:=n.toNat) M l pos;rw[<-NR z.cells n.toNat sz S]at *;have m:=TF (ty:=ty) ht hk p J y U S pos E D (by trivial) w (h.afR (dm.LY λr j=>by grind));cases hx;rw[show n.toNat=Q (aag n.toNat zero) by simp]at m;exact aaX N F R hs h (by simpa using m) (λr j=>by grind) (λr j=>by grind [dG]) H;cases H;cases H
end Ax
