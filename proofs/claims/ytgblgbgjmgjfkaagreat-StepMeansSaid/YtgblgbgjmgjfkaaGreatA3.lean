/- Part of a proof. -/
import Derived.Test.YtgblgbgjmgjfkaaGreatA2
import Derived.IntWalk

open List renaming mem_iff_getElem->aec,getElem?_eq_getElem->aas,getElem_mem->acH,getElem?_append_left->acJ,getElem?_eq_some_iff->aac,getElem?_append_right->acP,eq_nil_of_length_eq_zero->ad8,append_assoc->afd,size_toArray->aiK,length_append->adV,mem_flatten->ai2,length_pos_iff->agV,nil_append->aeN,getElem?_set->aek,append_nil->afe,flatten_append->alL,eq_of_mem_replicate->aem,all_eq_true->ac3,mem_of_mem_take->agM,mem_of_mem_drop->agN,mem_or_eq_of_mem_set->aeT,getElem?_map->aej,all_cons->ajs,map_cons->aei,mem_map->ad7,drop_drop->agO,take_append_drop->aiL,length_map->aes,ext_getElem?->aiJ,getElem?_take->aeq,getElem?_drop->agL,mem_cons->aev,length_nil->ahv,length_drop->aiR,getElem?_mapIdx->ang,length_set->ao5
open Option renaming map_eq_some_iff->aex,map_some->afo,toList_some->aot
open Nat renaming le_refl->acO,mul_le_mul_right->aez,add_mul->ajp,zero_add->aij,zero_le->ah7,succ_mul->aiu
open Bool renaming and_eq_true->Ee,not_eq_true'->afh,and_true->aiW
open Array renaming getElem?_eq_some_iff->ael,getElem?_setIfInBounds->anh
namespace Ax
open Go
variable {P:Program}{w w':World}{G G':bD}{β jm:List qh}{ρ:Operand->Value}{o:Oper}
theorem xh{st:aj}{bx:bK}{cO:Nat->Nat}(y:lN w G st)(x:mD w G β bx)(z:∀b,cO b+iJ b β bx+cV b G.ls st<=1){id:Nat}{loc loc':nM}{O j:dJ}{e:fz}{v:Value}
  (H:G.ls[id]?=some loc)(I:st[id]?=some O)(q:wZ w G w' G')(s:G'.ls=G.ls.set id loc')(U:tU w' G' j loc')(X:∀b p,G'.oY b=some p->b<w'.heap.size)
  (k:∀b,b<w.heap.size->loc.kC≠some b->fM w G w' G' b) (Z:w.heap.size<=w'.heap.size) (B:w'.os=w.os) (C:w'.output=w.output) (D:mX w' G' β e v)
  (J:∀b,dz b e v+j8 b loc' j<=cO b+j8 b loc O+(if w.heap.size<=b then 1 else 0)):lC w G β st bx cO w' G' β (st.set id j) bx e v:=by
 have Y:∀b,loc.kC=some b->j8 b loc O ≥ 1:=by
  intro b h;cases O<;>simp[j8,h]
 refine⟨q,H7 y q s (λi l g b hi m n E=>?_) U X,qx x q λb h=>?_,D,λb=>?_,λb h F=>?_,Z,B,C⟩;refine k b ((y.bO i g l n m).held E) λh=>?_;have t:=Y b h;have V:=Pz b G.ls st i id l g loc O hi m n H I;have:=z b;omega;refine k b (x.held h) λQ=>?_;have t:=Y b Q;have V:=qQ b G.ls st id loc O H I;have:=z b;omega;have m:=AP b G.ls st id loc O loc' j H I;have n:=J b;rw[s];omega;refine k b F λQ=>?_;have t:=Y b Q;have V:=qQ b G.ls st id loc O H I;omega
variable{e t ty:TypeId}{sz bytes:Nat}{i:TypeInfo}{z vs:Value}{N:List Value}{s:AV}
theorem AN.flat{rows:List (List AV)}{loc:nM}(h:AN w G sz rows loc):dg w G rows.flatten loc.vals.flatten/\(∀b,cP b rows.flatten loc.vals.flatten=iC b rows loc.vals)/\(∀r∈loc.vals,r.length=sz)/\
  ∀b off,(∀(i:Nat) xs (j:Nat) x,loc.vals[i]?=some xs->xs[j]?=some x->w.cell? ⟨b,off+(i*sz+j),none⟩=some x)->∀(k:Nat) x,loc.vals.flatten[k]?=some x->w.cell? ⟨b,off+k,none⟩=some x:=by
 have U:∀r∈loc.vals,r.length=sz:=λr n=>by
  obtain⟨i,H,rfl⟩:=aec.1 n;have J:i<rows.length:=by rw[<-h.xQ];exact H
  rw[<-(h.yh i rows[i] loc.vals[i] (aas J) (aas H)).1];exact dj.1 h.yT _ (acH J)
 refine⟨y6 rows loc.vals h.xQ.symm h.yh,λb=>D6 b rows loc.vals h.xQ.symm λi r xs g l=>(h.yh i r xs g l).1,U,λb off m k x p=>?_⟩;obtain⟨i,j,r,rfl,q,E⟩:=tn loc.vals k x U p;exact m i r j x q E
theorem ZS{st:aj}{bx:bK}{cO:Nat->Nat}(g:lN w G st)(p:mD w G β bx){a:Option Addr}(R:a.isSome=true) :
  ∃G',lC w G β st bx cO w G' β (st++[.rows 0 sz []]) bx (.val (.mu st.length 0)) (.slice a 0 0):=by
 have m:∀(id:Nat) loc,G.ls[id]?=some loc->∃loc',(G.ls++[⟨a,0,0,sz,0,false,[]⟩])[id]?=some loc'/\loc.cW<=loc'.cW/\(loc.cW=loc'.cW\/loc.mp=true->loc'.hd=loc.hd):=λid loc h=>
  ⟨loc,by rw[acJ (aac.1 h).1];exact h,acO _,λ_=>rfl⟩
 have l:wZ w G w ⟨G.ls++[⟨a,0,0,sz,0,false,[]⟩],G.oY⟩:=⟨λ_ _ h=>⟨rfl,h⟩,m⟩;refine⟨⟨G.ls++[⟨a,0,0,sz,0,false,[]⟩],G.oY⟩,l,⟨by simp[g.len],λid O loc j H=>?_,g.qi⟩,qx p l λb _=>⟨rfl,rfl⟩,.mu _ _ _ ⟨a,0,0,sz,0,false,[]⟩ ⟨_,_,_,rfl⟩ ?_ (acO _) λ_=>rfl,λb=>?_,λb _ _=>⟨rfl,rfl⟩,acO _,rfl,rfl⟩;by_cases n:id<st.length;rw[acJ n]at j;simp only at H;rw[acJ (by rw[g.len];exact n)]at H;exact(g.bO id O loc j H).kV l λb _=>⟨rfl,rfl⟩;rw[acP (by omega)]at j;simp only at H;rw[acP (by rw[g.len];omega),g.len]at H;have k:id-st.length=0:=by have:=(aac.1 j).1;simp at this;omega
 rw[k]at j H;simp at j H;subst j;subst H;exact⟨rfl,rfl,by simp[cr],by simp,rfl,rfl,rfl,λi r xs h=>by simp at h,.inl ⟨rfl,rfl,R⟩⟩;simp only;rw[acP (by rw[g.len];exact acO _),g.len];simp;simp only[dz,iw];rw[w6 b _ _ _ _ g.len];have k:cV b [⟨a,0,0,sz,0,false,[]⟩] [.rows 0 sz []]=0:=by simp[cV,j8,nM.kC,iC]
 rw[k];omega
structure ajv (P:Program)(t tx ty e:TypeId)(sz bytes:Nat)(x:Value)(n:Nat)(news:List Value)(w:World):Prop where
 newsLen:news.length=n*sz
 H8:n=0->∀base jg mN,jg<=mN->(Builtin.append_ #[t,tx] ty #[.slice base jg mN,x]).run P w=.ok (.slice base jg mN) w
 cZ:∀(b off jg mN:Nat) (gD:Array Value) (e0:TypeId),w.heap[b]?=some (.cells gD e0 (0,0))->jg+n<=mN->off+mN*sz<=gD.size->
  (Builtin.append_ #[t,tx] ty #[.slice (some ⟨b,off,none⟩) jg mN,x]).run P w=.ok (.slice (some ⟨b,off,none⟩) (jg+n) mN) (w.setRow b (ay gD.toList (off+jg*sz) news).toArray)
 new:∀(base:Option Addr) (jg mN:Nat) (olds:List Value),(Builtin.firstCells sz jg (.slice base jg mN)).run P w.drew=.ok olds.toArray w.drew->olds.length=jg*sz->mN<jg+n->(jg+n)*bytes<=140737488355328->
  ∃cap c,(Builtin.append_ #[t,tx] ty #[.slice base jg mN,x]).run P w=.ok (.slice (some ⟨w.heap.size,0,none⟩) (jg+n) cap) (w.drew.alloc (.cells c e))/\jg+n<=cap/\cap*sz<=c.size/\
   ∀(k:Nat) v,(olds++news)[k]?=some v->c[k]?=some v
theorem ZT{tx:TypeId}(h:SL P t tx e sz bytes i z){x:Value}{n:Nat}(hs:Go.Src P sz tx x n N w):ajv P t tx ty e sz bytes x n N w where
 newsLen:=hs.newsLen
 H8:=λl base j m k=>by
  subst l;have hn:N=[]:=ad8 (by simpa using hs.newsLen);subst hn;exact run_append_nothing w t tx ty e i h.ht h.hi base j m k x (by rw[h.eO];exact hs)
 cZ:=λb off j m gD E g p q=>vO h b off j m gD E g x n N hs p q
 new:=λbase j m O H X g s=>vP h base j m O H X x n N hs g s
theorem M6(z:Array Value)(n s:Nat)(h:z.size=s):(Builtin.zeroCells z n).toList=((Array.range (n*s)).map (z[· % z.size]!)).toList:=by
 subst h;rfl
theorem SM{T:TypeId}{C:Nat}(X:P.underlying t=some (.slice e))(H:∃k,P.underlying T=some (.int k))(x:P.info? e=some i)(I:i.zero=some z)(W:i.size=C)(D:i.bytes=bytes)
  (N:z.cells.size=C)(pos:0<C)(V:0<bytes){n:Int}(h0:0<=n)(hr:n*bytes<=140737488355328)(w:World)(nZ:∀u∈(Builtin.zeroCells z.cells n.toNat).toList,u.oneCell'=true) :
  ajv P t T ty e C bytes (.int .i64 n) n.toNat (Builtin.zeroCells z.cells n.toNat).toList w:=by
 obtain⟨k,H⟩:=H;subst W;subst D;have F:n<=140737488355328:=by
  have:n*1<=n*i.bytes:=Int.mul_le_mul_of_nonneg_left (by omega) (by omega);omega
 have y:IntKind.i64.wrap n=n:=IntWalk.i64_in n ⟨by omega,by omega⟩;have g:¬n<0:=by omega
 have h:¬(281474976710656<n*i.bytes):=by omega
 have m:(Builtin.zeroCells z.cells n.toNat).toList.length=n.toNat*i.size:=by rw[Array.length_toList,size_zeroCells,N]
 refine⟨m,λK base j M p=>?_,λb off j M gD K E B h2=>?_,λbase j M O l U E Q=>?_⟩;have L:n=0:=by omega
 subst L;cases base<;>simp[Builtin.append_,cn X,cn H,Go.sizeOf,typeInfo,x,asInt,asIntOf,y,p,storeCells];have p:off+j*i.size+n.toNat*i.size<=gD.size:=by
  have:(j+n.toNat)*i.size<=M*i.size:=aez _ B;rw[ajp]at this;omega
 have J:=jB (P:=P) b (off+j*i.size) K _ gD w E (by rw[m];exact p) nZ;by_cases Z:n.toNat*i.size=0;have L:(Builtin.zeroCells z.cells n.toNat).toList=[]:=ad8 (by rw[m,Z]);rw[L]at J ⊢;simp[Builtin.append_,cn X,cn H,Go.sizeOf,typeInfo,x,asInt,asIntOf,y,g,h,Z,B,Addr.add_lit,J];simp[Builtin.append_,cn X,cn H,Go.sizeOf,typeInfo,zeroValue,x,I,asInt,asIntOf,y,g,h,Z,B,Addr.add_lit,J];have F:¬(j+n.toNat<=M):=by omega
 have Y:¬(9223372036854775807<((j:Int)+(n.toNat:Int))):=by have:=UU Q V;omega
 have q:¬(9223372036854775807<((j:Int)+max n 0)):=by omega
 have s:¬(281474976710656<Builtin.nextslicecap (j+n.toNat) M*i.bytes):=by have:=growslice_fits E Q;omega
 refine⟨grownCap w (j+n.toNat) M e,(O++(Builtin.zeroCells z.cells n.toNat).toList).toArray++Builtin.zeroCells z.cells (grownCap w (j+n.toNat) M e-(j+n.toNat)),?_,grownCap_ge _ _ _ _,?_,λk v R=>?_⟩;by_cases Z:n.toNat*i.size=0;have L:(Builtin.zeroCells z.cells n.toNat).toList=[]:=ad8 (by rw[m,Z]);rw[L];simp[Builtin.append_,cn X,cn H,Go.sizeOf,typeInfo,zeroValue,x,I,asInt,asIntOf,y,g,h,F,q,s,Z,Question.forced,l,newRow,grownCap];simp[Builtin.append_,cn X,cn H,Go.sizeOf,typeInfo,zeroValue,x,I,asInt,asIntOf,y,g,h,F,q,s,Z,Question.forced,l,newRow,grownCap];congr 2;apply Array.ext';simp[afd];have B:=grownCap_ge w (j+n.toNat) M e;rw[Array.size_append,size_zeroCells,N];simp only[aiK,adV,U,m];rw[<-ajp,<-ajp];exact aez _ (by omega);have H:=(aac.1 R).1;rw[Array.getElem?_append,af (by simpa using H)];simpa using R
theorem ZV{tx:TypeId}{st:aj}{bx:bK}(g:lN w G st)(hB:mD w G β bx){cO:Nat->Nat}(hX:∀b,cO b+iJ b β bx+cV b G.ls st<=1)
  {vx:Value}(hs:bF w G s vs){new:List (List AV)}(X:dg w G new.flatten N)(V:ajv P t tx ty e sz bytes vx new.length N w)(kD:∀r∈new,AV.bC r=true)(ee:∀r∈new,AV.fJ r=true)
  {wl ah:Nat} {st':aj} {iz:bK} {r:fz} (H:tR wl ah sz bytes s new st bx=some (r,st',iz)) :
  ∃v w' G',(Builtin.append_ #[t,tx] ty #[vs,vx]).run P w=.ok v w'/\lC w G β st bx cO w' G' β st' iz r v:=by
 unfold tR at H
 ·split at H
  ·rename_i cm;have Lc:∀b xs,cP b new.flatten xs=0:=λb xs=>eZ b _ _ ((dD _).2 λx hx=>by
    obtain⟨r,q,hx⟩:=ai2.1 hx;exact(dD r).1 (ee r q) x hx)
   have th:new=[]->N=[]:=λD=>by
    subst D;have:=X.1;simp at this;exact ad8 this.symm
   have fresh:∀base,(Builtin.firstCells sz 0 (.slice base 0 0)).run P w.drew=.ok ([]:List Value).toArray w.drew->new.length*bytes<=cZ->(new=[]->base.isSome=true)->
     ∃v w' G',(Builtin.append_ #[t,tx] ty #[.slice base 0 0,vx]).run P w=.ok v w'/\lC w G β st bx cO w' G' β (st++[.rows 0 sz new]) bx (.val (.mu st.length 0)) v:=by
    intro base hf q hbs;by_cases M:new=[];have:=th M;subst this;subst M;have:=V.H8 rfl base 0 0 (acO _);obtain⟨G',hA⟩:=ZS (w:=w) (G:=G) (β:=β) (cO:=cO) (sz:=sz) (a:=base) g hB (hbs rfl);exact⟨_,_,_,this,hA⟩;have hn:0<new.length:=agV.2 M;obtain⟨cap,c,T,W,e3,e4⟩:=V.new base 0 0 [] hf (by simp) (by omega) (by simpa [cZ] using q);simp only[aij,aeN]at T W e4;obtain⟨G',hA,_⟩:=AR (w':=w.drew.alloc (.cells c e)) (cO:=cO) g hB rfl rfl rfl cm kD X (by omega) e3 W e4 (λb=>by rw[Lc];omega);exact⟨_,_,G',T,hA⟩
   split at H;split at H;rename_i Jb;cases H;have D:new=[]:=(by simpa using Jb);have:=th D;subst this;subst D;cases hs;have:=V.H8 rfl none 0 0 (acO _);exact⟨_,_,_,this,lC.qw g hB (bF.aF) λb=>by simp[dz,iw]⟩;split at H;rename_i q;cases H;cases hs;exact fresh none (run_firstCells_none _ _ _ _ _) q λh=>au h (by rename_i Jb;simpa using Jb);cases H;split at H;rename_i q;cases H;cases hs with
   |oI a=>exact fresh (some a) (by simp[Builtin.firstCells,loadCells,loadCellsFrom]) q λ_=>rfl
   cases H
   ·rename_i id cW;split at H
    ·rename_i v L jf iH;split at H
     ·rename_i hc;simp only[Ee,aA]at hc;obtain⟨⟨⟨⟨rfl,rfl⟩,q⟩,_⟩,_⟩:=hc;cases H;obtain⟨loc,z,Fx,GB,J⟩:=g.loc iH;cases hs with
      |mu _ _ _ loc' hp wQ CF he=>
      rw[z]at wQ;cases wQ;have rG:=he (by omega);subst rG;obtain⟨C,F,hfv,M7⟩:=J.flat;have Hx:∀O:nM,O.cW=v+1->∀(i:Nat) l,G.ls[i]?=some l->∃y,(G.at id O).ls[i]?=some y/\l.cW<=y.cW/\(l.cW=y.cW\/l.mp=true->y.hd=l.hd):=λO hv=>
       I9 z (by omega) λh=>by rcases h with h|h<;>simp_all<;>omega
      have Sh:∀O:nM,(G.at id O).ls[id]?=some O:=λO=>by
       simp only[bD.at];rw[aek,af rfl,af (aac.1 z).1]
      by_cases M:new=[];have:=th M;subst this;subst M;have n:loc.len<=loc.cap:=by
       rcases J.tT with⟨D,Z,_⟩|⟨b,off,c,e',tV,iA,Y,eO,m,jW,fB⟩;rw[J.len,Z];simp;rw[J.len];exact m
      have:=V.H8 rfl loc.a loc.len loc.cap n;have R:wZ w G w (G.at id { loc with cW:=v+1 }):=⟨λ_ _ h=>⟨rfl,h⟩,Hx _ rfl⟩;refine⟨_,_,G.at id { loc with cW:=v+1 },this,xh g hB hX z iH R rfl ?_ g.qi (λb _ _=>⟨rfl,rfl⟩) (acO _) rfl rfl (.mu _ _ _ { loc with cW:=v+1 } ⟨_,_,_,rfl⟩ (Sh _) (acO _) λ_=>rfl) λb=>?_⟩;have:=(tU.kV (w':=w) (G':=G.at id { loc with cW:=v+1 }) (show tU w G (.rows v L jf) loc from⟨Fx,GB,J⟩) R λb _=>⟨rfl,rfl⟩);obtain⟨_,_,E⟩:=this;rw[afe];exact⟨Fx,rfl,E.yT,E.HY,E.len,E.size,E.xQ,E.yh,E.tT⟩;simp only[dz,iw,afe];show 0+j8 b loc (.rows v L jf)<=cO b+j8 b loc (.rows v L jf)+_;omega;have hn:0<new.length:=agV.2 M;have lQ:=AT J.yT cm;have xg:(jf++new).flatten=jf.flatten++new.flatten:=alL;have Xd:loc.vals.flatten.length=jf.length*L:=(by rw[<-C.1];exact gX jf (dj.1 J.yT));have Zc:N.length=new.length*L:=V.newsLen;by_cases ux:jf.length+new.length<=loc.cap;rcases J.tT with⟨D,Z,_⟩|⟨b,off,c,e',tV,iA,Y,eO,m,jW,fB⟩;omega;have n:off+jf.length*L+N.length<=c.size:=by
       rw[Zc];have:(jf.length+new.length)*L<=loc.cap*L:=aez _ ux;rw[ajp]at this;omega
      have T:=V.cZ b off jf.length loc.cap c e' Y ux eO;rw[tV,J.len];have aoQ:=Hx ⟨some ⟨b,off,none⟩,loc.cap,(jf++new).length,L,v+1,false,vK L (jf++new).length (loc.vals.flatten++N)⟩ rfl;have hW:Wr w G (w.setRow b (ay c.toList (off+jf.length*L) N).toArray) ⟨(G.at id ⟨some ⟨b,off,none⟩,loc.cap,(jf++new).length,L,v+1,false,vK L (jf++new).length (loc.vals.flatten++N)⟩).ls,λB=>if B=b then some 0 else G.oY B⟩ b:=
       Ja Y n jW (ah7 _) (acO _) aoQ
      have iG:loc.kC=some b:=(by unfold nM.kC;rw[U (by omega),tV];rfl);refine⟨_,_,⟨(G.at id ⟨some ⟨b,off,none⟩,loc.cap,(jf++new).length,L,v+1,false,vK L (jf++new).length (loc.vals.flatten++N)⟩).ls,λB=>if B=b then some 0 else G.oY B⟩,T,?_⟩;refine xh g hB hX z iH hW.kV rfl ⟨rfl,rfl,qS (b:=b) (off:=off) (c:=(ay c.toList (off+jf.length*L) N).toArray) (e:=e') (xs:=loc.vals.flatten++N) lQ (sM J.HY kD) ?_ rfl rfl rfl rfl iA (setRow_heap w b c _ e' (0,0) Y) (by rw[aiK,fF];simpa using eO) (by simpa using ux) (by simp) λk x I=>?_⟩
       (hW.qi g) (λB _ Q=>hW.kX λe=>Q (by rw[iG,e])) (by simp) rfl rfl (.mu _ _ _ _ ⟨_,_,_,rfl⟩ (Sh _) (acO _) λ_=>by simp) λB=>?_
      rw[xg];refine(C.mono hW.kV λB Q=>hW.kX λe=>?_).append (X.mono hW.kV λB Q=>by rw[Lc]at Q;omega);subst e;rw[F]at Q;have Z:=hX B;have h2:=qQ B G.ls st id loc _ z iH;simp only[j8,iG,bh]at h2;omega;rw[xd Y n];by_cases vR:k<loc.vals.flatten.length;rw[acJ vR]at I;rw[U (by omega)];exact M7 b off fB k x I;rw[acP (by omega)]at I;have bP:=(aac.1 I).1;rw[af (by omega),show off+k-(off+jf.length*L)=k-loc.vals.flatten.length by omega];exact I;have PM:(⟨some ⟨b,off,none⟩,loc.cap,(jf++new).length,L,v+1,false,vK L (jf++new).length (loc.vals.flatten++N)⟩:nM).kC=loc.kC:=by
       rw[iG];unfold nM.kC;rw[U (show ¬loc.cap=0 by omega)];rfl
      simp only[dz,iw,j8];rw[PM,vL B (jf++new) _ (dj.1 lQ) (by rw[xg,adV,adV,C.1,X.1]),xg,iB B _ _ _ _ C.1,Lc,F];omega;have hf:(Builtin.firstCells L loc.len (.slice loc.a loc.len loc.cap)).run P w.drew=.ok loc.vals.flatten.toArray w.drew:=by
       rcases J.tT with⟨D,Z,_⟩|⟨b,off,c,e',tV,iA,Y,eO,m,jW,fB⟩;have:loc.vals=[]:=by
        have:=J.xQ;rw[Z]at this;exact ad8 (by simpa using this)
       rw[J.len,Z,this];cases loc.a<;>simp[Builtin.firstCells,loadCells,loadCellsFrom];rw[tV,J.len];exact run_firstCells_some w.drew L jf.length ⟨b,off,none⟩ jf.length loc.cap _ Xd (λj v hj=>by rw[nY,LP];exact M7 b off fB j v hj)
      obtain⟨Xe,c,T,W,e3,e4⟩:=V.new loc.a loc.len loc.cap loc.vals.flatten hf (by rw[Xd,J.len]) (by rw[J.len];omega) (by rw[J.len];exact q);rw[J.len,<-adV]at W;have hcp:0<Xe:=(by rw[adV]at W;omega);have K:(w.drew.alloc (.cells c e)).heap=w.heap.push (.cells c e):=rfl;have hlN:(G.new w.heap.size (some 0) []).ls[id]?=some loc:=(by simp only[bD.new,afe];exact z);have R:wZ w G (w.drew.alloc (.cells c e)) ((G.new w.heap.size (some 0) []).at id ⟨some ⟨w.heap.size,0,none⟩,Xe,(jf++new).length,L,v+1,false,vK L (jf++new).length (loc.vals.flatten++N)⟩):=
       (w7 K (some 0) []).trans (SI hlN (by simp;omega) λh=>by rcases h with h|h<;>simp_all<;>omega)
      refine⟨_,_,_,T,xh g hB hX z iH R (loc':=⟨some ⟨w.heap.size,0,none⟩,Xe,(jf++new).length,L,v+1,false,vK L (jf++new).length (loc.vals.flatten++N)⟩) (by simp only[bD.at,bD.new,afe]) ⟨rfl,rfl,qS (b:=w.heap.size) (off:=0) (c:=c) (e:=e) (xs:=loc.vals.flatten++N) lQ (sM J.HY kD) ?_ rfl rfl rfl rfl hcp (vM K) (by simpa using e3) W (by simp[bD.at,bD.new]) λk x I=>?_⟩
       (λb p hp=>?_) (λb hb _=>?_) (by rw[K];simp) rfl rfl (.mu _ _ _ _ ⟨_,_,_,rfl⟩ (by simp only[bD.at];rw[aek,af rfl,af (aac.1 hlN).1]) (acO _) λ_=>by simp[J.len]) λB=>?_⟩
      rw[xg];exact(C.mono R λB Q=>jx (G:=G) K (some 0) [] (C.held Q)).append (X.mono R λB Q=>by rw[Lc]at Q;omega);rw[aij];exact I6 K (e4 k x I);simp only[bD.at,bD.new]at hp;rw[K,Array.size_push];split at hp;omega;have:=g.qi b p hp;omega;exact jx (G:=G) K (some 0) [] hb;have PM:(⟨some ⟨w.heap.size,0,none⟩,Xe,(jf++new).length,L,v+1,false,vK L (jf++new).length (loc.vals.flatten++N)⟩:nM).kC=some w.heap.size:=by
       unfold nM.kC;rw[U (show ¬Xe=0 by omega)];rfl
      simp only[dz,iw,j8];rw[PM,vL B (jf++new) _ (dj.1 lQ) (by rw[xg,adV,adV,C.1,X.1]),xg,iB B _ _ _ _ C.1,Lc,F];simp only[bw];by_cases hb:w.heap.size=B;subst hb;rw[af (acO _)];simp;omega;rw[U hb];omega
     cases H
    cases H
   cases H
  cases H
theorem Xf{T:TypeId}(h:SL P t T e sz bytes i z){st:aj}{bx:bK}(g:lN w G st)(j:mD w G β bx){cO:Nat->Nat}(k:∀b,cO b+iJ b β bx+cV b G.ls st<=1)
  {x:AV}{V:Value}(l:bF w G s vs)(m:bF w G x V){wl ah:Nat}{st':aj}{iz:bK}{r:fz}(H:bz wl ah (.jH sz bytes) [.val s,.val x] st bx=some (r,st',iz)) :
  ∃v w' G',(Builtin.append_ #[t,T] ty #[vs,V]).run P w=.ok v w'/\lC w G β st bx cO w' G' β st' iz r v:=by
 simp only[bz]at H;split at H;cases H;rename_i new n;by_cases J:cr sz new=true;obtain⟨N,F,I,K,E,_⟩:=FA g m n J h.kind;exact ZV g j k l F (ZT h I) K E H;unfold tR at H;rw[U J]at H;cases H
theorem Xg{T:TypeId}(X:P.underlying t=some (.slice e))(O:∃k,P.underlying T=some (.int k))(E:dA P e sz=true)(j:sL P e bytes=true){zero:List AV}(W:rK P e zero=true)(pos:0<sz)(C:0<bytes)
  {st:aj}{bx:bK}(I:lN w G st)(F:mD w G β bx){cO:Nat->Nat}(L:∀b,cO b+iJ b β bx+cV b G.ls st<=1)
  {x:AV} {V:Value} (Q:bF w G s vs) (R:bF w G x V) {wl ah:Nat} {st':aj} {iz:bK} {r:fz} (g:bz wl ah (.wU sz bytes zero) [.val s,.val x] st bx=some (r,st',iz)) :
  ∃v w' G',(Builtin.append_ #[t,T] ty #[vs,V]).run P w=.ok v w'/\lC w G β st bx cO w' G' β st' iz r v:=by
 simp only[bz]at g;split at g;rename_i n heq;simp only[List.cons.injEq,fz.val.injEq,and_true]at heq;obtain⟨rfl,rfl⟩:=heq;split at g;rename_i l;obtain⟨D,H,p,sK⟩:=l;obtain⟨i,z,m,B,Z,y,U⟩:=oK W w G;obtain⟨Y,J,K,_⟩:=nW E;rw[m]at J;cases J;have M:i.bytes=bytes:=by simpa [sL,m] using j
 have N:z.cells.size=sz:=by rw[<-p,Z.1];simp
 have h:=Fy (n:=n.toNat) Z p pos;rw[<-M6 z.cells n.toNat sz N]at h;have q:=SM (ty:=ty) X O m B K M N pos C D (by simpa [cZ] using H) w (h.aeF (dg.La λr H=>by rw[aem H];exact U));cases R;rw[show n.toNat=(List.replicate n.toNat zero).length by simp]at q;exact ZV I F L Q h (by simpa using q) (λr H=>by rw[aem H];exact U) (λr H=>by rw[aem H];exact(dD zero).2 λc l=>(y c l).1) g;cases g;cases g
end Ax
namespace Ax
open Go
variable {P:Program}{w w':World}{G G':bD}{β jm:List qh}{ρ:Operand->Value}{o:Oper}
variable{v:Value}{as:List AV}{n:Nat}{t:TypeId}{g:Type}
theorem D7{st:aj}(q:lN w G st){id C i k s:Nat}{rows:List (List AV)}{r:List AV}(z:bF w G (.ptr id C i k) v)(I:st[id]?=some (.rows C s rows))(h:rows[i]?=some r) :
  ∃loc b off c e X,G.ls[id]?=some loc/\loc.mp=false/\loc.cW=C/\AN w G s rows loc/\v=.pointer (some ⟨b,off+(i*s+k),none⟩)/\loc.a=some ⟨b,off,none⟩/\0<loc.cap/\loc.kC=some b/\
   w.heap[b]?=some (.cells c e (0,0))/\off+loc.cap*s<=c.size/\rows.length<=loc.cap/\G.oY b=some 0/\loc.vals[i]?=some X/\dg w G r X/\
   ∀(i:Nat) X (j:Nat) x,loc.vals[i]?=some X->X[j]?=some x->w.cell? ⟨b,off+(i*s+j),none⟩=some x:=by
 obtain⟨loc,l,F,R,J⟩:=q.loc I;cases z with
 |ptr _ _ _ _ _ loc' E W p t=>
 rw[l]at W;cases W;obtain⟨a,T,rfl⟩:=t R.symm;rcases J.tT with⟨_,B,_⟩|⟨b,off,c,n,g,N,Y,H,m,Z,O⟩;subst B;simp at h;rw[g]at T;cases T;have y:i<loc.vals.length:=by rw[J.xQ];exact(aac.1 h).1
 have p:=aas y;exact⟨loc,b,off,c,n,loc.vals[i],l,F,R,J,by rw[J.size],g,N,by unfold nM.kC;rw[U (by omega),g];rfl,Y,H,m,Z,p,J.yh i r _ h p,O⟩
theorem l9{vs:List AV}(h:AV.bC as=true)(k:AV.bC vs=true)(g:n+vs.length<=as.length):AV.bC (ay as n vs)=true:=by
 rw[l7 _ _ _ g];simp only[AV.bC,ac3,List.mem_append]at *;intro x l;rcases l with (l|l)|l;exact h x (agM l);exact k x l;exact h x (agN l)
theorem aeZ{x y:Operand}(ho:o.op=.store t x y)(hn:dA P t n=true){st:aj}{bx:bK}(X:lN w G st)(hB:mD w G β bx){cO:Nat->Nat}(hX:∀b,cO b+iJ b β bx+cV b G.ls st<=1)
  {p v:AV}(hp:bF w G p (ρ x))(hv:bF w G v (ρ y))(l8:∀b,iw b v (ρ y)<=cO b){wl ah:Nat}{st':aj}{iz:bK}{r:fz}(F:bz wl ah (.store n) [.val p,.val v] st bx=some (r,st',iz)) :
  ∃w' G',(execOp ρ o).run P w=.ok .skip w'/\lC w G β st bx cO w' G' β st' iz r undef:=by
 simp only[bz]at F;split at F;rename_i mI;simp only[Ee,aA]at mI;obtain⟨hvn,ZW⟩:=mI;split at F;rename_i qg l;cases F;unfold fR at l;split at l;rename_i id cW i k;split at l;rename_i ve sz rows iH;split at l;rename_i MX;simp only[Ee,aA]at MX;obtain⟨rfl,_⟩:=MX;split at l;rename_i q E;split at l;rename_i M;cases l;obtain⟨loc,b,off,c,e,xs,hl,Fx,GB,J,PN,tV,iA,iG,Y,hle,K,jW,L,Dy,fB⟩:=D7 X hp iH E;obtain⟨I,UM⟩:=hv.cells;have tj:q.length=sz:=dj.1 J.yT q (eB E);have hxl:xs.length=sz:=by rw[<-Dy.1];exact tj
 have hi:i<rows.length:=(aac.1 E).1;have UW:(ρ y).cells.toList.length=v.cells.length:=I.1.symm;have ZN:=I.aeF ZW;have O:off+(i*sz+k)+(ρ y).cells.toList.length<=c.size:=by
  have H:(i+1)*sz<=loc.cap*sz:=aez _ (by omega);rw[aiu]at H;omega
 have Hz:=jB (P:=P) b (off+(i*sz+k)) e (ρ y).cells.toList c w Y O ZN;have Hx:=I9 (loc':={ loc with vals:=loc.vals.set i (ay xs k (ρ y).cells.toList) }) hl (acO _) λ_=>rfl;have D:Wr w G (w.setRow b (ay c.toList (off+(i*sz+k)) (ρ y).cells.toList).toArray) ⟨(G.at id { loc with vals:=loc.vals.set i (ay xs k (ρ y).cells.toList) }).ls,λB=>if B=b then some 0 else G.oY B⟩ b:=
  Ja Y O jW (ah7 _) (acO _) Hx
 have nZ:cO b=0/\iC b rows loc.vals=0:=by
  have H:=hX b;have g:=qQ b G.ls st id loc _ hl iH;simp only[j8,iG,bh]at g;omega
 refine⟨_,⟨(G.at id { loc with vals:=loc.vals.set i (ay xs k (ρ y).cells.toList) }).ls,λB=>if B=b then some 0 else G.oY B⟩,?_,xh X hB hX hl iH D.kV rfl ⟨Fx,GB,?_⟩ (D.qi X) (λB _ N=>D.kX λe=>N (by rw[iG,e])) (by simp) rfl rfl trivial λB=>?_⟩;have eO:(ρ y).cells.size=n:=by rw[<-hvn,I.1];simp
 simp only[execOp,ho,PN,cj,Instr.storeAt,Instr.sureAddr,Sem.run_pure,dy,storeVar,fL hn,eO,ne_eq,not_true_eq_false,br,Hz];have T:dg (w.setRow b (ay c.toList (off+(i*sz+k)) (ρ y).cells.toList).toArray) ⟨(G.at id { loc with vals:=loc.vals.set i (ay xs k (ρ y).cells.toList) }).ls,λB=>if B=b then some 0 else G.oY B⟩ v.cells (ρ y).cells.toList:=
  I.mono D.kV λB N=>D.kX λe=>by
   subst e;rw[UM]at N;have:=l8 B;omega
 have m:∀(Q:Nat) R s,rows[Q]?=some R->loc.vals[Q]?=some s->dg (w.setRow b (ay c.toList (off+(i*sz+k)) (ρ y).cells.toList).toArray) ⟨(G.at id { loc with vals:=loc.vals.set i (ay xs k (ρ y).cells.toList) }).ls,λB=>if B=b then some 0 else G.oY B⟩ R s:=λQ R s H g=>
  (J.yh Q R s H g).mono D.kV λB N=>D.kX λe=>by
   subst e;have:=BY B rows loc.vals Q R s H g;omega
 refine⟨dj.2 λR Z=>?_,λR Z=>?_,by simp[J.len],J.size,by simp[J.xQ],λQ R s H g=>?_,.inr ⟨b,off,_,e,tV,iA,setRow_heap w b c _ e (0,0) Y,by rw[aiK,fF];simpa using hle,by simpa using K,by simp,λQ s j z H g=>?_⟩⟩;rcases aeT Z with h|h;exact dj.1 J.yT R h;rw[h,fF];exact tj;rcases aeT Z with h|h;exact J.HY R h;rw[h];exact l9 (J.HY q (eB E)) ZW M;simp only at g;rw[aek]at H g;by_cases C:i=Q;subst C;rw[af rfl,af hi]at H;rw[af rfl,af (aac.1 L).1]at g;cases H;cases g;exact(m i q xs E L).ay T M;rw[U C]at H g;exact m Q R s H g;simp only at H;rw[xd Y O];rw[aek]at H;by_cases C:i=Q;subst C;rw[af rfl]at H;split at H;cases H;rw[kW _ _ _ _ (by rw[UW,hxl,<-tj];exact M)]at g;split at g;rename_i hj;rw[af (by omega),show off+(i*sz+j)-(off+(i*sz+k))=j-k by omega];exact g;rename_i hj;rw[U (by omega)];exact fB i xs j z L g;cases H;rw[U C]at H;have hj:j<sz:=by
  have h3:=(aac.1 g).1;have h4:=J.flat.2.2.1 s (eB H);omega
 have:¬(off+(i*sz+k)<=off+(Q*sz+j)/\off+(Q*sz+j)<off+(i*sz+k)+(ρ y).cells.toList.length):=by
  rcases Nat.lt_or_gt_of_ne C with V|V;have W:(i+1)*sz<=Q*sz:=aez _ V;rw[aiu]at W;omega;have W:(Q+1)*sz<=i*sz:=aez _ V;rw[aiu]at W;omega
 rw[U this];exact fB Q s j z H g;have H:=yl B rows loc.vals i q xs (ay q k v.cells) (ay xs k (ρ y).cells.toList) E L;have g:=vI B q v.cells xs (ρ y).cells.toList k Dy.1 I.1 M;have h3:=l8 B;rw[UM]at g;have hb:(if ({ loc with vals:=loc.vals.set i (ay xs k (ρ y).cells.toList) }:nM).kC=some B then 1 else 0)=(if loc.kC=some B then 1 else 0):=rfl;simp only[dz,j8];rw[hb];omega;cases l;cases l;cases l;cases l;cases l;cases F;cases F
theorem bF.gi{a:AV}(h:bF w G a v):bF w G a.gi v:=by
 cases h with
 |ju g rows a cap O N J x B C p y Z Y=>exact .gone _ rfl|raw g rows a cap O N J x B C p y Z Y=>exact .gone _ rfl|agg m vs H h=>exact .agg m vs H h|eY m vs H h=>exact .eY m vs H h|undef=>exact .undef|gone v h=>exact .gone v h|bool b=>exact .bool b|int k n=>exact .int k n|str l s h=>exact .str l s h|eP=>exact .eP|aF=>exact .aF|gu=>exact .gu|je=>exact .je|lz=>exact .lz|dV g rows a cap O N J x B C p y=>exact .dV g rows a cap O N J x B C p y|oI a=>exact .oI a|mu id j v loc t H z U=>exact .mu id j v loc t H z U|ptr id j i k v loc t H z U=>exact .ptr id j i k v loc t H z U|tM g rows i k a cap H=>exact .tM g rows i k a cap H|map id loc b H q D=>exact .map id loc b H q D|fn f first F T V H q E h k=>exact .fn f first F T V H q E h k
theorem ZY(b:Nat)(a:AV)(v:Value)(h:a.cM=true):iw b a.gi v=0:=by
 refine gw b _ _ ?_;cases a<;>simp_all [AV.gi,AV.de,AV.cM]
theorem PO(a:AV)(h:a.cM=true):a.gi.cM=true:=by
 cases a<;>simp_all [AV.gi,AV.cM]
theorem dg.gi{as:List AV}{x:List Value}(h:dg w G as x):dg w G (as.map AV.gi) x:=by
 refine⟨by simp[h.1],λi c v H g=>?_⟩;simp only[aej,aex]at H;obtain⟨C,H,rfl⟩:=H;exact(h.2 i C v H g).gi
theorem LQ(b:Nat):∀(as:List AV)(X:List Value),AV.bC as=true->cP b (as.map AV.gi) X=0
 |[],X,_=>by simp[cP]|a::as,[],_=>by simp[cP]|a::as,x::X,h=>by
  simp only[AV.bC,ajs,Ee]at h;have:=LQ b as X h.2;simp only[aei,cP,ZY b a x h.1,this]
theorem Le(h:AV.bC as=true):AV.bC (as.map AV.gi)=true:=by
 simp only[AV.bC,ac3,ad7]at *;rintro x ⟨y,k,rfl⟩;exact PO y (h y k)
theorem M8(h:AV.bC as=true)(k n:Nat):AV.bC ((as.drop k).take n)=true:=by
 simp only[AV.bC,ac3]at *;intro x l;exact h x (agN (agM l))
theorem y7(x:List g)(k n:Nat)(h:k+n<=x.length):ay x k ((x.drop k).take n)=x:=by
 rw[l7 _ _ _ (by simp;omega)];have:((x.drop k).take n).length=n:=by simp;omega
 rw[this,afd,<-agO,aiL,aiL]
theorem PT{r C:List AV}{x:List Value}{k:Nat}(H:dg w G r x)(q:cut r k n=some C)(K:AV.bC r=true) :
  dg w G (ay r k (C.map AV.gi)) x/\AV.bC (ay r k (C.map AV.gi))=true/\∀b,cP b (ay r k (C.map AV.gi)) x+cP b C ((x.drop k).take n)=cP b r x:=by
 obtain⟨rfl,j,m⟩:=vJ q;have h:=M8 K k n;have g:k+n<=x.length:=by rw[<-H.1];exact j
 have N:=y7 x k n g;refine⟨?_,l9 K (Le h) (by rw[aes];omega),λb=>?_⟩;have:=H.ay ((H.drop k).take n).gi (n:=k) (by rw[aes];omega);rw[N]at this;exact this;have t:=nX b k r x H.1;have l:=nX b n (r.drop k) (x.drop k) (by simp[H.1]);have p:=LQ b ((r.drop k).take n) ((x.drop k).take n) h;have e:cP b (ay r k (((r.drop k).take n).map AV.gi)) x=cP b (ay r k (((r.drop k).take n).map AV.gi)) (ay x k ((x.drop k).take n)):=by rw[N]
 rw[e,l7 _ _ _ (by rw[aes];omega),l7 _ _ _ (by simp;omega),iB b _ _ _ _ (by have:=H.1;simp;omega),iB b _ _ _ _ (by have:=H.1;simp;omega),p];have L:(((r.drop k).take n).map AV.gi).length=n:=by rw[aes];omega
 have s:((x.drop k).take n).length=n:=by simp;omega
 rw[L,s];rw[agO,agO]at l;omega
theorem jX(l:List g)(i:Nat)(x:g)(h:l[i]?=some x):l.set i x=l:=by
 apply aiJ;intro j;rw[aek];split;rename_i e;subst e;split;exact h.symm;rename_i H;exact au (aac.1 h).1 H
 rfl
theorem SQ{x:Operand}{agg:Bool}(ho:o.op=.load t x)(hn:dA P t n=true)(xR:qO P t=some agg)(nZ:agg=false->n=1){st:aj}{bx:bK}(F:lN w G st)(hB:mD w G β bx){cO:Nat->Nat}(hX:∀b,cO b+iJ b β bx+cV b G.ls st<=1)
  {p:AV}(hp:bF w G p (ρ x)){wl ah:Nat}{st':aj}{iz:bK}{r:fz}(l:bz wl ah (.load agg n true) [.val p] st bx=some (r,st',iz)) :
  ∃v,(execOp ρ o).run P w=.ok (.value v) w/\lC w G β st bx cO w G β st' iz r v:=by
 simp only[bz,bh]at l;split at l;rename_i O C;split at l;rename_i qg v H hv;cases l;unfold fR at H;split at H;rename_i id cW i k;split at H;rename_i ve sz rows K;split at H;rename_i M;simp only[Ee,aA]at M;obtain⟨rfl,_⟩:=M;split at H;rename_i m q;split at H;rename_i cm;cases H;simp only[gm,K,q,bh]at C;obtain⟨loc,b,off,c,e,xs,T,W,X,J,Y,tV,iA,iG,gK,I,y,jW,L,D,Q⟩:=D7 F hp K q;obtain⟨t1,t2,t3⟩:=PT D C (J.HY m (eB q));obtain⟨l8,SR,lO⟩:=vJ C;have hxl:xs.length=m.length:=D.1.symm;have UX:((xs.drop k).take n).length=n:=by simp;omega
 have fG:dg w G O ((xs.drop k).take n):=by rw[l8];exact(D.drop k).take n
 obtain⟨u,g,s,h3⟩:=MY ho hn xR nZ Y UX fG (λj z B=>by
  rw[aeq]at B;split at B;rw[agL]at B;rw[show off+(i*sz+k)+j=off+(i*sz+(k+j)) by omega];exact Q i xs (k+j) z L B;cases B) hv
 refine⟨u,g,xh F hB hX T K (wZ.refl w G) (jX _ _ _ T).symm ⟨W,X,?_⟩ F.qi (λb _ _=>⟨rfl,rfl⟩) (acO _) rfl rfl s λE=>?_⟩;refine⟨dj.2 λR Z=>?_,λR Z=>?_,by simp[J.len],J.size,by simp[J.xQ],λV R Si g s=>?_,.inr ⟨b,off,c,e,tV,iA,gK,I,by simpa using y,jW,Q⟩⟩;rcases aeT Z with h|h;exact dj.1 J.yT R h;rw[h,fF];exact dj.1 J.yT m (eB q);rcases aeT Z with h|h;exact J.HY R h;rw[h];exact t2;rw[aek]at g;by_cases N:i=V;subst N;rw[af rfl]at g;split at g;cases g;rw[L]at s;cases s;exact t1;cases g;rw[U N]at g;exact J.yh V R Si g s;have h4:=yl E rows loc.vals i m xs (ay m k (O.map AV.gi)) xs q L;rw[jX _ _ _ L]at h4;have h5:=t3 E;have h6:=h3 E;simp only[dz,j8];omega;cases H;cases H;cases H;cases H;cases H;cases l;cases l
end Ax
namespace Ax
open Go
variable {P:Program}{w w':World}{G G':bD}{β jm:List qh}{ρ:Operand->Value}{o:Oper}
def gx(nb:Option Nat)(β jm:List qh):Prop:=∀(j:Nat) g,β[j]?=some g->∃h,jm[j]?=some h/\(nb≠some j->h.kC=g.kC)
theorem gx.refl(nb:Option Nat)(β:List qh):gx nb β β:=λ_ g h=>⟨g,h,λ_=>rfl⟩
variable{j:Nat}{v:Value}{t:TypeId}{x:Operand}
theorem gx.set{nb:Option Nat}{g k:qh}(O:β[j]?=some g)(h:nb≠some j->k.kC=g.kC):gx nb β (β.set j k):=by
 intro i x l;by_cases H:j=i;subst H;rw[O]at l;cases l;exact⟨k,by rw[aek,af rfl,af (aac.1 O).1],h⟩;exact⟨x,by rw[aek,U H];exact l,λ_=>rfl⟩
theorem Je{st:aj}{bx:bK}{cO:Nat->Nat}(B:lN w G st)(q:mD w G β bx)(C:∀b,cO b+iJ b β bx+cV b G.ls st<=1){g g':qh}{l row':List AV}{e:fz}
  (O:β[j]?=some g)(m:bx[j]?=some l)(Y:g'.kC=g.kC)(y:wZ w G w' G')(z:G'.ls=G.ls)(K:D5 w' G' row' g')(X:∀b p,G'.oY b=some p->b<w'.heap.size)
  (n:∀b,b<w.heap.size->g.kC≠some b->fM w G w' G' b) (Z:w.heap.size<=w'.heap.size) (E:w'.os=w.os) (D:w'.output=w.output) (I:mX w' G' (β.set j g') e v)
  (J:∀b,dz b e v+cP b row' g'.vals<=cO b+cP b l g.vals):lC w G β st bx cO w' G' (β.set j g') st (bx.set j row') e v:=by
 have key:∀b,g.kC=some b->1<=(if g.kC=some b then 1 else 0)+cP b l g.vals:=λb h=>by rw[af h];omega
 refine⟨y,AS B y z (λb s=>n b (B.held s) λh=>?_) X,⟨by simp[q.len],λi r x H k=>?_⟩,I,λb=>?_,λb s F=>n b F λh=>?_,Z,E,D⟩;have H:=key b h;have k:=qR b β bx j g l O m;have:=C b;omega;rw[aek]at H k;by_cases t:j=i;subst t;rw[af rfl,af (aac.1 m).1]at H;rw[af rfl,af (aac.1 O).1]at k;cases H;cases k;exact K;rw[U t]at H k;refine(q.box i r x H k).kV y λb s=>n b (q.held (b:=b) (by have:=qR b β bx i x r k H;omega)) λh=>?_;have L:=key b h;have M:=PA b β bx i j x r g l (λe=>t e.symm) k H O m;have:=C b;omega;have H:=D4 b β bx j g l g' row' O m;have k:=J b;rw[z];rw[Y]at H;omega;have H:=key b h;have k:=qR b β bx j g l O m;omega
theorem M9{bx:bK}(t:mD w G β bx){k:Nat}{h:List AV}(y:mX w G β (.fp j k) v)(B:bx[j]?=some h) :
  ∃g b c e,β[j]?=some g/\g.kC=some b/\v=.pointer (some ⟨b,k,none⟩)/\D5 w G h g/\w.heap[b]?=some (.cells c e (0,0))/\h.length<=c.size/\G.oY b=some 0/\∀(k:Nat) x,g.vals[k]?=some x->w.cell? ⟨b,k,none⟩=some x:=by
 obtain⟨g,b,l,H,q⟩:=y;have n:=t.box j h g B l;rcases n.tT with⟨p,_⟩|⟨C,c,e,m,V,z,Y,s⟩;rw[p]at H;cases H;rw[H]at m;cases m;exact⟨g,b,c,e,l,H,q,n,V,z,Y,s⟩
theorem ZZ{y:Operand}{N n:Nat}(ho:o.op=.store t x y)(hn:dA P t n=true){st:aj}{bx:bK}(V:lN w G st)(T:mD w G β bx){cO:Nat->Nat}(W:∀b,cO b+iJ b β bx+cV b G.ls st<=1)
  {p v:fz}(hp:mX w G β p (ρ x))(hv:mX w G β v (ρ y))(X:∀b,dz b v (ρ y)<=cO b){wl ah:Nat}{st':aj}{iz:bK}{r:fz}(H:bz wl ah (.xM N n) [p,v] st bx=some (r,st',iz)) :
  ∃w' G' jm,(execOp ρ o).run P w=.ok .skip w'/\lC w G β st bx cO w' G' jm st' iz r undef/\gx none β jm:=by
 unfold bz at H;simp only at H;split at H;rename_i j k v heq;cases heq;split at H;rename_i mI;simp only[Ee,aA]at mI;obtain⟨⟨rfl,h⟩,Z⟩:=mI;split at H;rename_i s L;split at H;rename_i J;cases H;obtain⟨g,b,c,e,E,M,PN,m,Y,K,jW,fB⟩:=M9 T hp L;obtain⟨I,Q⟩:=bF.cells hv;have R:(ρ y).cells.toList.length=n:=by rw[<-h];exact I.1.symm
 have O:k+(ρ y).cells.toList.length<=c.size:=by omega
 have Hz:=jB (P:=P) b k e (ρ y).cells.toList c w Y O (I.aeF Z);have D:Wr w G (w.setRow b (ay c.toList k (ρ y).cells.toList).toArray) ⟨G.ls,λB=>if B=b then some 0 else G.oY B⟩ b:=Ja Y O jW (ah7 _) (acO _) (I8 G);have nZ:cO b=0/\cP b s g.vals=0:=by
  have h1:=W b;have C:=qR b β bx N g s E L;rw[af M]at C;omega
 refine⟨_,⟨G.ls,λB=>if B=b then some 0 else G.oY B⟩,β.set N ⟨g.kC,ay g.vals k (ρ y).cells.toList⟩,?_,Je V T W E L rfl D.kV rfl ⟨?_,l9 m.HY Z (by rw[h];exact J),.inr ⟨b,_,e,M,setRow_heap w b c _ e (0,0) Y,?_,by simp,λi z l=>?_⟩⟩ (D.qi V) (λB _ q=>D.kX λe=>q (by rw[M,e])) (by simp) rfl rfl trivial λB=>?_,gx.set E λ_=>rfl⟩;have eO:(ρ y).cells.size=n:=by simpa using R
 simp only[execOp,ho,PN,cj,Instr.storeAt,Instr.sureAddr,Sem.run_pure,dy,storeVar,fL hn,eO,ne_eq,not_true_eq_false,br,Hz];refine(m.yb.mono D.kV λB q=>D.kX λe=>?_).ay (I.mono D.kV λB q=>D.kX λe=>?_) (by rw[h];exact J);subst e;omega;subst e;rw[Q]at q;have:=X B;simp only[dz]at this;omega;rw[fF,aiK,fF];simpa using K;rw[xd Y O];simp only at l;rw[kW _ _ _ _ (by rw[R];rw[<-m.yb.1];exact J)]at l;split at l;rename_i F;rw[af F];exact l;rename_i F;rw[U F];exact fB i z l;have C:=vI B s v.cells g.vals (ρ y).cells.toList k m.yb.1 I.1 (by rw[h];exact J);have h3:=X B;rw[Q]at C;simp only[dz]at h3 ⊢;omega;cases H;cases H;cases H;cases H
theorem ae2{j0 n:Nat}{agg T:Bool}(N:o.op=.load t x)(M:dA P t n=true)(X:qO P t=some agg)(R:agg=false->n=1){st:aj}{bx:bK}(D:lN w G st)(B:mD w G β bx){cO:Nat->Nat}(hX:∀b,cO b+iJ b β bx+cV b G.ls st<=1)
  {p:fz}(hp:mX w G β p (ρ x)){wl ah:Nat}{st':aj}{iz:bK}{r:fz}(H:bz wl ah (.yc j0 agg n T) [p] st bx=some (r,st',iz)) :
  ∃v,(execOp ρ o).run P w=.ok (.value v) w/\lC w G β st bx cO w G β st' iz r v:=by
 unfold bz at H;simp only at H;split at H;rename_i j k heq;cases heq;split at H;rename_i hj;subst hj;split at H;rename_i I Q;split at H;rename_i C Z;obtain⟨g,b,c,e,L,iG,Y,m,W,E,jW,O⟩:=M9 B hp Q;obtain⟨l8,SR,lO⟩:=vJ Z;have hxl:g.vals.length=I.length:=m.yb.1.symm;have U:((g.vals.drop k).take n).length=n:=by simp;omega
 have K:dg w G C ((g.vals.drop k).take n):=by rw[l8];exact(m.yb.drop k).take n
 have V:∀(j:Nat) y,((g.vals.drop k).take n)[j]?=some y->w.cell? ⟨b,k+j,none⟩=some y:=λj z h=>by
  rw[aeq]at h;split at h;rw[agL]at h;exact O _ z h;cases h
 split at H;split at H;rename_i v F;cases H;obtain⟨u,l,q,s⟩:=MY N M X R Y U K V F;obtain⟨t1,t2,t3⟩:=PT m.yb Z m.HY;have:=Je (e:=.val v) (v:=u) (g':=g) (row':=ay I k (C.map AV.gi)) D B hX L Q rfl (wZ.refl w G) rfl ⟨t1,t2,.inr ⟨b,c,e,iG,W,by rw[fF];exact E,jW,O⟩⟩ D.qi (λb _ _=>⟨rfl,rfl⟩) (acO _) rfl rfl q λJ=>by
  have h4:=t3 J;have h5:=s J;simp only[dz];omega
 rw[jX _ _ _ L]at this;exact⟨u,l,this⟩;cases H;split at H;rename_i v F;cases H;obtain⟨u,l,q,s⟩:=MY N M X R Y U K.ai V F;refine⟨u,l,lC.qw D B q λd=>?_⟩;simp only[dz,s d];rw[eZ d _ _ (iV C)];omega;cases H;cases H;cases H;cases H;cases H
theorem Jf(b:Nat):∀(n:Nat)(rs:List (List AV))(X:List (List Value)),iC b (rs.take n) (X.take n)<=iC b rs X
 |0,rs,X=>by simp[iC]|n+1,[],X=>by simp[iC]|n+1,r::rs,[]=>by simp[iC]|n+1,r::rs,x::X=>by
  have:=Jf b n rs X;simp only[List.take_succ_cons,iC];omega
theorem Z1{e:TypeId}{hi:Operand}{sz:Nat}(ho:o.op=.slice t x none (some hi) none)(hu:P.underlying t=some (.slice e))(K:dA P e sz=true){st:aj}{bx:bK}(B:lN w G st)(hB:mD w G β bx){cO:Nat->Nat}(hX:∀b,cO b+iJ b β bx+cV b G.ls st<=1)
  {a h:AV}(I:bF w G a (ρ x))(hh:bF w G h (ρ hi)){wl ah:Nat}{st':aj}{iz:bK}{r:fz}(U:bz wl ah (.vF sz) [.val a,.val h] st bx=some (r,st',iz)) :
  ∃v G',(execOp ρ o).run P w=.ok (.value v) w/\lC w G β st bx cO w G' β st' iz r v:=by
 unfold bz at U;simp only at U;split at U
 ·rename_i id cW n heq;cases heq;split at U
  ·rename_i v s rows M;split at U
   ·rename_i L;simp only[Ee,aA]at L;obtain⟨⟨⟨⟨rfl,rfl⟩,H⟩,k⟩,_⟩:=L;cases U;obtain⟨loc,p,Q,V,J⟩:=B.loc M;generalize X:ρ x=xv at I;cases I with
    |mu _ _ _ loc' hp W CF he=>
    rw[p]at W;cases W;have rG:=he (by omega);subst rG;have N:rows.length<=loc.cap:=by
     rcases J.tT with⟨H,k,_⟩|⟨b,off,c,y,T,N,Y,K,m,Z,O⟩;rw[k];simp;exact m
    have C:=hh.iN;have Xh:(execOp ρ o).run P w=.ok (.value (.slice loc.a n.toNat loc.cap)) w:=by
     simp only[execOp,ho,X,cj];have hb:(Instr.sliceBounds true loc.len loc.cap none (some (ρ hi)) none).run P w=.ok (0,n.toNat,loc.cap) w:=by
      have:=mY (P:=P) (AG:=true) (len:=loc.len) (cap:=loc.cap) (lo:=none) (hi:=some hi) (ρ:=ρ) (a:=0) (b:=n) (.inl ⟨rfl,rfl⟩) (.inr ⟨hi,rfl,C⟩) (by omega) H (by omega) w;simpa using this
     simp only[Instr.sliceAt,cj,cn hu,dy,Instr.slice,Option.map_none,afo,hb,fL K,Sem.run_pure];rcases J.tT with⟨H,k,_⟩|⟨b,off,c,y,T,N,Y,K,m,Z,O⟩;simp[H];simp[T,nY,show ¬loc.cap=0 by omega]
    have R:wZ w G w (G.at id ⟨loc.a,loc.cap,n.toNat,loc.sz,v+1,false,loc.vals.take n.toNat⟩):=SI p (by simp;omega) λh=>by rcases h with h|h<;>simp_all<;>omega
    refine⟨_,_,Xh,xh (loc':=⟨loc.a,loc.cap,n.toNat,loc.sz,v+1,false,loc.vals.take n.toNat⟩) B hB hX p M R rfl ⟨rfl,rfl,?_⟩ B.qi (λb _ _=>⟨rfl,rfl⟩) (acO _) rfl rfl (.mu _ _ _ _ ⟨_,_,_,rfl⟩ (by simp only[bD.at];rw[aek,af rfl,af (aac.1 p).1]) (acO _) λ_=>rfl) λb=>?_⟩;have l:=tU.kV (w':=w) (show tU w G (.rows v s rows) loc from⟨Q,V,J⟩) R λb _=>⟨rfl,rfl⟩;obtain⟨_,_,g⟩:=l;refine⟨dj.2 λr D=>dj.1 g.yT r (agM D),λr D=>g.HY r (agM D),by simp;omega,g.size,by simp[g.xQ],λi r xs E q=>?_,?_⟩;simp only at q;rw[aeq]at E q;split at E;rename_i bP;rw[af bP]at q;exact g.yh i r xs E q;cases E;rcases g.tT with⟨H,k,F⟩|⟨b,off,c,y,T,N,Y,K,m,Z,O⟩;exact .inl ⟨H,by rw[k];simp,F⟩;refine .inr ⟨b,off,c,y,T,N,Y,K,by simp;omega,Z,λi xs j z E q=>?_⟩;simp only at E;rw[aeq]at E;split at E;exact O i xs j z E q;cases E;have F:=Jf b n.toNat rows loc.vals;simp only[dz,iw];show 0+((if loc.kC=some b then 1 else 0)+iC b (rows.take n.toNat) (loc.vals.take n.toNat))<=cO b+((if loc.kC=some b then 1 else 0)+iC b rows loc.vals)+_;omega
   cases U
  cases U
 cases U
end Ax
namespace Ax
open Go
variable {P:Program}{w w':World}{G G':bD}{β jm:List qh}{ρ:Operand->Value}{o:Oper}
theorem Jg{r:Nat}{E:Array MapEntry}{clock:Nat}{O:Obj}(h:w.heap[r]?=some (.map E clock)):(setObj r O).run P w=.ok () { w with heap:=w.heap.setIfInBounds r O }:=by
 simp[setObj,Sem.run,h]
theorem xS{t:TypeId}{kk:SK}(X:tg P t kk=true){k v:AV}{x y:Value}(B:bF w G k x)(Z:bF w G v y)(K:k.de=true)(N:v.de=true):∀(E C:List (AV×AV))(fs:List MapEntry),Dw w G E fs->IF kk k v E=some C->
  (∃i e u,yd kk k E=some (some u)/\fs[i]?=some e/\(∀(q:Option (Nat×Value)),(Instr.findKey t x fs).run P w=.ok q w->∃val,q=some (i,val))/\K5 kk k (E[i]?.map (·.1) |>.getD .undef)=some true/\(∃a,E[i]?=some a/\bF w G a.1 e.key)/\Dw w G C (fs.set i { e with key:=x,val:=y }))\/
  (yd kk k E=some none/\∀born,Dw w G C (fs++[{ key:=x,val:=y,born:=born }])):=by
 have g:∃d,P.underlying t=some d:=by
  unfold tg at X;cases kk<;>simp only at X<;>split at X<;>(try cases X)<;>exact⟨_,by assumption⟩
 obtain⟨d,g⟩:=g;intro E;induction E with
 |nil=>
  intro C fs n h;simp only[IF,bw]at h;subst h;have Q:fs=[]:=ad8 (by simpa using n.1);subst Q;refine .inr ⟨rfl,λborn=>⟨rfl,λi a b e l H=>?_⟩⟩;cases i with
  |zero=>simp at l H;obtain⟨rfl,rfl⟩:=l;subst H;exact⟨B,Z,N,K⟩|succ i=>simp at l
 |cons c E W=>
  intro C fs n h;obtain⟨a,u⟩:=c;cases fs with
  |nil=>have:=n.1;simp at this|cons f fs=>
   obtain⟨V,g2,g3,g4⟩:=n.2 0 a u f rfl rfl;simp only[IF]at h;split at h;rename_i U;cases h;refine .inl ⟨0,f,u,by simp[yd,U],rfl,λq L=>?_,by simpa using U,⟨(a,u),rfl,V⟩,?_⟩;have T:=yZ X g U B V;have:(Instr.findKey t x (f::fs)).run P w=.ok (some (0,f.val)) w:=by simp[Instr.findKey,cn g,Instr.findNow,T]
   rw[this]at L;cases L;exact⟨_,rfl⟩;refine⟨by simpa using n.1,λi p q e l H=>?_⟩;cases i with
   |zero=>simp at l H;obtain⟨rfl,rfl⟩:=l;subst H;exact⟨B,Z,N,K⟩|succ i=>exact n.2 (i+1) p q e (by simpa using l) (by simpa using H)
   rename_i U;split at h;rename_i r' CJ;cases h;have T:=yZ X g U B V;have D:∀j F,Dw w G j F->Dw w G ((a,u)::j) (f::F):=λj F H=>⟨by simp[H.1],λi p q e m I=>by
    cases i with
    |zero=>simp at m I;obtain⟨rfl,rfl⟩:=m;subst I;exact⟨V,g2,g3,g4⟩|succ i=>exact H.2 i p q e (by simpa using m) (by simpa using I)⟩
   rcases W r' fs n.tail CJ with⟨i,e,u',J,O,f3,f4,f5,f6⟩|⟨J,O⟩;refine .inl ⟨i+1,e,u',by simp[yd,U,J],by simpa using O,λq L=>?_,by simpa using f4,by simpa using f5,by simpa using D _ _ f6⟩;obtain⟨q0,m,I⟩:=y5 X g B E fs 0 _ n.tail J;obtain⟨q1,Y,e4⟩:=y5 X g B E fs 1 _ n.tail J;obtain⟨j0,e0,a1,_⟩:=I;obtain⟨j1,e0',b1,b2,_⟩:=e4;have Q:(Instr.findKey t x fs).run P w=.ok q0 w:=(by simp[Instr.findKey,cn g,m]);obtain⟨val,rG⟩:=f3 q0 Q;have:(Instr.findKey t x (f::fs)).run P w=.ok q1 w:=by simp[Instr.findKey,cn g,Instr.findNow,T,Y]
   rw[this]at L;cases L;have key:∀(fs:List MapEntry) (s:Nat) (q:Option (Nat×Value)),Instr.findNow d x fs s=some q->Instr.findNow d x fs (s+1)=some (q.map λz=>(z.1+1,z.2)):=by
    intro fs;induction fs with
    |nil=>intro s q h;simp[Instr.findNow]at h ⊢;subst h;rfl|cons f fs W=>
     intro s q h;simp only[Instr.findNow]at h ⊢;cases M:Instr.sameNow d x f.key with
     |none=>rw[M]at h;simp at h|some b=>
      rw[M]at h;cases b with
      |true=>simp at h ⊢;subst h;rfl|false=>simp at h ⊢;exact W _ _ h
   have R:=key fs 0 q0 m;rw[aij]at R;rw[Y]at R;cases R;rw[rG];exact⟨val,rfl⟩;exact .inr ⟨by simp[yd,U,J],λborn=>D _ _ (O born)⟩;cases h;cases h
theorem PU{kk:SK}{a b:AV}{x y:Value}(h:K5 kk a b=some true)(H:bF w G a x)(l:bF w G b y)(n:Nat):Instr.sameBits n y x=true:=by
 unfold K5 at h;split at h;simp only[bw,cD]at h;rw[H.l6,l.l6,h];simp[Instr.sameBits];split at h;rename_i g;subst g;simp only[bw,cD]at h;rw[H.iN,l.iN,h];simp[Instr.sameBits];cases h;simp only[bw,cD]at h;obtain⟨s,rfl,rfl⟩:=H.p5;obtain⟨k,rfl,j⟩:=l.p5;have:s=k:=ByteArray.ext (Array.toList_inj.1 (h.trans j.symm));subst this;simp only[Instr.sameBits];rw[beq_toListBytes];exact beq_self_eq_true _;cases h
theorem GK{t kt et:TypeId}{m k x:Operand}(z:o.op=.mapUpdate t m k x\/o.op=.insert t m k x)(hu:P.underlying t=some (.map kt et)){kk:SK}(X:tg P kt kk=true){st:aj}{bx:bK}(L:lN w G st)(hB:mD w G β bx){cO:Nat->Nat}(hX:∀b,cO b+iJ b β bx+cV b G.ls st<=1)
  {am y C:AV}(hm:bF w G am (ρ m))(p:bF w G y (ρ k))(hv:bF w G C (ρ x)){wl ah:Nat}{st':aj}{iz:bK}{r:fz}(H:bz wl ah (.mapUpdate kk) [.val am,.val y,.val C] st bx=some (r,st',iz)) :
  ∃w' G',(execOp ρ o).run P w=.ok .skip w'/\lC w G β st bx cO w' G' β st' iz r undef:=by
 unfold bz at H;simp only at H;split at H;rename_i id k0 v0 heq;cases heq;split at H;rename_i es iH;split at H;rename_i mI;simp only[Ee]at mI;split at H;rename_i s Xi;cases H;have T:y.de=true:=by
  have:=mI.1;unfold LH at this;split at this<;>first|rfl|cases this
 obtain⟨loc,V,Pq⟩:=L.loc iH;obtain⟨g1,g2,b,fs,clock,Y,J,g5,g6,g7⟩:=Pq;have W:ρ m=.map (some b):=by
  generalize ρ m=mv at hm;cases hm with
  |map _ loc' bk wQ Fx Q=>rw[V]at wQ;cases wQ;rw[Q]at Y;cases Y;rfl
 have iG:loc.kC=some b:=by unfold nM.kC;rw[U (by omega),Y];rfl
 have O:Dw w G es fs.toList:=⟨by simpa using g6,λi a v e E g=>g7 i a v e E (by simpa using g)⟩;have M:(getObj b).run P w=.ok (.map fs clock) w:=by simp[getObj,Sem.run,J]
 have n:=run_checkKey (w:=w) X false 9999 (ρ k);have oJ:∀(F:Array MapEntry) (N:Nat),Dw w G s F.toList->
   lC w G β st bx cO { w with heap:=w.heap.setIfInBounds b (.map F N) } ⟨(G.at id loc).ls,λB=>if B=b then some 0 else G.oY B⟩ β (st.set id (.map s)) bx .none undef:=by
  intro F N l;have bP:b<w.heap.size:=(ael.1 J).1;have D:Wr w G { w with heap:=w.heap.setIfInBounds b (.map F N) } ⟨(G.at id loc).ls,λB=>if B=b then some 0 else G.oY B⟩ b:=
   ⟨by simp,λB Q=>by simp only[anh];rw[U λe=>Q e.symm],λB Q=>by simp[Q],⟨0,0,g5,by simp,acO _,λo z=>by omega⟩,I9 V (acO _) λ_=>rfl⟩
  refine xh L hB hX V iH D.kV rfl ⟨g1,g2,b,F,N,Y,?_,by simp,by simpa using l.1,λi a v e E g=>?_⟩ (D.qi L) (λB _ Q=>D.kX λe=>Q (by rw[iG,e])) (by simp) rfl rfl trivial λB=>by simp only[dz,j8];omega
  simp only[anh];rw[af trivial,af bP];obtain⟨h1,h2,h3,h4⟩:=l.2 i a v e E (by simpa using g);exact⟨h1.kV D.kV λb R=>by rw[gw b a _ h4]at R;omega,h2.kV D.kV λb R=>by rw[gw b v _ h3]at R;omega,h3,h4⟩
 have head:∀(w':World),(Instr.mapUpdate t (.map (some b)) (ρ k) (ρ x)).run P w=.ok () w'->(execOp ρ o).run P w=.ok .skip w':=by
  intro w' h;rcases z with z|z<;>simp only[execOp,z,W,cj,h,dy,Sem.run_pure]
 rcases xS X p hv.ai T (yY C) es s fs.toList O Xi with⟨i,e,u,I,K,f3,f4,⟨a,f5,f6⟩,f7⟩|⟨I,K⟩;obtain⟨q,E,g⟩:=run_findKey X p O I w;obtain⟨val,rfl⟩:=f3 q E;have Z:fs[i]?=some e:=by simpa using K
 refine⟨_,_,head _ ?_,oJ (fs.modify i λe=>{ e with key:=ρ k,val:=ρ x }) clock ?_⟩;rw[f5]at f4;have hsb:=PU f4 p f6 10000;simp only[Instr.mapUpdate,cj,cn hu,dy,M,n,E,Z,afo,Option.getD_some,Instr.keyThatStays,hsb,bh,Sem.run_pure,Jg J];have:(fs.modify i λe=>{ e with key:=ρ k,val:=ρ x }).toList=fs.toList.set i { e with key:=ρ k,val:=ρ x }:=by
  rw[Array.toList_modify];apply aiJ;intro j;rw[List.getElem?_modify,aek];by_cases Hw:i=j;subst Hw;simp[(ael.1 Z).1,(ael.1 Z).2];simp[Hw]
 rw[this];exact f7;obtain⟨q,E,g⟩:=run_findKey X p O I w;simp only at g;subst g;refine⟨_,_,head _ ?_,oJ (fs.push { key:=ρ k,val:=ρ x,born:=clock }) (clock+1) (by rw[Array.toList_push];exact K clock)⟩;simp only[Instr.mapUpdate,cj,cn hu,dy,M,n,E,Jg J];cases H;cases H;cases H;cases H
end Ax
namespace Ax
open Go
variable {P:Program}{w w':World}{G G':bD}{β jm:List qh}{ρ:Operand->Value}{o:Oper}
structure Pd (w:World)(G:bD)(st:aj)(G':bD)(st':aj):Prop where
 kV:wZ w G w G'
 inv:lN w G' st'
 iw:∀b,cV b G'.ls st'<=cV b G.ls st
 AQ:∀b,cV b G.ls st=0->G'.oY b=G.oY b
theorem Pd.refl{st:aj}(g:lN w G st):Pd w G st G st:=⟨wZ.refl w G,g,λ_=>acO _,λ_ _=>rfl⟩
theorem Pd.trans{g j:bD}{st qg pg:aj}(h:Pd w G st g qg)(k:Pd w g qg j pg):Pd w G st j pg:=
 ⟨h.kV.trans k.kV,k.inv,λb=>Nat.le_trans (k.iw b) (h.iw b),λb l=>(k.AQ b (by have:=h.iw b;omega)).trans (h.AQ b l)⟩
mutual
theorem AU:∀a:AV,a.aH=true->a.ai.aH=true
 |.ju _ _,_=>by simp[AV.ai,AV.aH]|.raw _ _,_=>by simp[AV.ai,AV.aH]|.agg C,h=>by simp only[AV.ai,AV.aH]at *;exact sN C h|.eY C,h=>by simp only[AV.ai,AV.aH]at *;exact sN C h|.undef,h|.gone,h|.bool _,h|.int _ _,h|.str _,h|.eP,h|.aF,h|.gu,h|.je,h|.lz,h|.dV _ _,h|.oI,h|.mu _ _,h|.ptr _ _ _ _,h|.tM _ _ _ _,h|.map _,h|.fn _ _ _,h=>by simpa [AV.ai] using h
theorem sN:∀C:List AV,AV.aB C=true->AV.aB (AV.cC C)=true
 |[],_=>rfl|c::C,h=>by
  simp only[AV.aB,Ee]at h;simp only[AV.cC,AV.aB,AU c h.1,sN C h.2,Bool.and_self]
end
variable{a:AV}{v:Value}{rows:List (List AV)}
theorem bF.FB(h:bF w G a v)(j:wZ w G w' G')(g:a.de=true):bF w' G' a v:=h.kV j λb l=>by rw[gw b a v g]at l;omega
def nF(s C:Nat):nM:=⟨some ⟨0,0,none⟩,0,0,s,C+1,false,[]⟩
theorem Nb(s C:Nat):tU w G (.rows (C+1) s []) (nF s C):=
 ⟨rfl,rfl,by simp[cr],by simp,rfl,rfl,rfl,λi r x h=>by simp at h,.inl ⟨rfl,rfl,rfl⟩⟩
theorem LR{st:aj}(g:lN w G st){id C s:Nat}{loc:nM}(I:st[id]?=some (.rows C s rows))(j:G.ls[id]?=some loc)(F:loc.mp=false)(R:loc.cW=C) :
  Pd w G st (G.at id (nF s C)) (st.set id (.rows (C+1) s []))/\∀b,cV b (G.at id (nF s C)).ls (st.set id (.rows (C+1) s []))+j8 b loc (.rows C s rows)=cV b G.ls st:=by
 have k:wZ w G w (G.at id (nF s C)):=SI j (by simp only[nF];omega) λh=>by
  rcases h with h|h;simp only[nF]at h;omega;rw[F]at h;cases h
 have H:∀b,cV b (G.at id (nF s C)).ls (st.set id (.rows (C+1) s []))+j8 b loc (.rows C s rows)=cV b G.ls st:=λb=>by
  have:=AP b G.ls st id loc _ (nF s C) (.rows (C+1) s []) j I;have l:j8 b (nF s C) (.rows (C+1) s [])=0:=by simp[j8,nF,nM.kC,iC]
  rw[l]at this;exact this
 exact⟨⟨k,H7 g k rfl (λ_ _ _ b _ _ _ _=>⟨rfl,rfl⟩) (Nb s C) g.qi,λb=>by have:=H b;omega,λ_ _=>rfl⟩,H⟩
def bD.HB(G:bD)(b:Nat):bD:=⟨G.ls,λB=>if B=b then none else G.oY B⟩
theorem PW{st:aj}(g:lN w G st){b:Nat}(l:G.oY b=some 0)(k:cV b G.ls st=0):wZ w G w (G.HB b)/\lN w (G.HB b) st:=by
 have H:wZ w G w (G.HB b):=⟨λB o h=>⟨rfl,h.1,λp j=>by
  simp only[bD.HB]at j;split at j;cases j;exact h.2 p j⟩,I8 G⟩
 refine⟨H,AS g H rfl (λB q=>⟨?_,rfl⟩) λB p j=>?_⟩;simp only[bD.HB];rw[U];intro e;subst e;omega;simp only[bD.HB]at j;split at j;cases j;exact g.qi B p j
theorem PX{s b off cap:Nat}{vals:List (List Value)}(J:cr s rows=true)(K:∀r∈rows,AV.bC r=true)(z:∀r∈rows,AV.fJ r=true)(I:∀r∈rows,AV.aB r=true)
  (m:vals.length=rows.length)(k:∀(i:Nat) r X,rows[i]?=some r->vals[i]?=some X->dg w G r X)(N:rows.length<=cap)(C:b<w.heap.size)(F:G.oY b=none)
  (O:∀(i:Nat) X (j:Nat) x,vals[i]?=some X->X[j]?=some x->w.cell? ⟨b,off+(i*s+j),none⟩=some x):bF w G (.dV s rows) (.slice (some ⟨b,off,none⟩) rows.length cap):=by
 have key:∀(i:Nat) r (j:Nat) c,rows[i]?=some r->r[j]?=some c->∃v,w.cell? ⟨b,off+(i*s+j),none⟩=some v/\bF w G c v:=by
  intro i r j c H g;have D:i<vals.length:=by rw[m];exact(aac.1 H).1
  have t:=aas D;obtain⟨E,y⟩:=k i r _ H t;have q:j<vals[i].length:=by rw[<-E];exact(aac.1 g).1
  exact⟨_,O i _ j _ t (aas q),y j c _ g (aas q)⟩
 refine .dV s rows ⟨b,off,none⟩ cap rfl N J z I K (λi r j c H g=>⟨⟨C,λp l=>by simp only at l;rw[F]at l;cases l⟩,?_⟩) λi r j c v H g n=>?_;obtain⟨v,h,_⟩:=key i r j c H g;exact⟨v,h⟩;obtain⟨V,h,B⟩:=key i r j c H g;rw[h]at n;cases n;exact B
theorem SU{wl:Nat}{st st':aj}{l:AV}(n:lN w G st)(E:∀b,cV b G.ls st<=1)(h:bF w G a v)(H:mM wl a st=some (l,st')) :
  ∃G',Pd w G st G' st'/\bF w G' l v/\l.de=true/\l.aH=true/\l.cM=true:=by
 unfold mM at H;split at H
 ·rename_i id cW;split at H
  ·rename_i v0 s rows I;split at H
   ·rename_i k;simp only[Ee,aA,afh,ac3]at k;obtain⟨⟨⟨rfl,sK⟩,M⟩,_⟩:=k;cases H;obtain⟨loc,t,x,y,J⟩:=n.loc I;cases h with
    |mu _ _ _ L hp W CF K=>
    rw[t]at W;cases W;have X:=K (by omega);subst X;rcases J.tT with⟨_,th,_⟩|⟨b,off,c,e',T,iA,C,eO,m,N,O⟩;subst th;simp at M;obtain⟨F,p⟩:=LR n I t x y;have Y:loc.kC=some b:=(by unfold nM.kC;rw[U (by omega),T];rfl);have D:cV b (G.at id (nF s v0)).ls (st.set id (.rows (v0+1) s []))=0:=by
     have g:=p b;have q:=E b;simp only[j8,Y,bh]at g;omega
    obtain⟨V,z⟩:=PW F.inv (b:=b) (by exact N) D;refine⟨(G.at id (nF s v0)).HB b,⟨F.kV.trans V,z,F.iw,λB Q=>?_⟩,?_,by simp[AV.de],by simp[AV.aH],by simp[AV.cM]⟩;simp only[bD.HB,bD.at];rw[U];intro e;subst e;have g:=p B;simp only[j8,Y,bh]at g;omega;rw[T,J.len,show rows.length=(rows.map AV.cC).length by simp];refine PX (vals:=loc.vals) (dj.2 λr j=>?_) (λr j=>?_) (λr j=>?_) (λr j=>?_) (by simpa using J.xQ) (λi r xs g q=>?_) (by simpa using m) (ael.1 C).1 (by simp[bD.HB]) O;obtain⟨R,Z,rfl⟩:=ad7.1 j;rw[qN];exact dj.1 J.yT R Z;obtain⟨R,Z,rfl⟩:=ad7.1 j;rw[vN];exact J.HY R Z;obtain⟨R,Z,rfl⟩:=ad7.1 j;exact iV R;obtain⟨R,Z,rfl⟩:=ad7.1 j;exact sN R (sK R Z);simp only[aej,aex]at g;obtain⟨R,g,rfl⟩:=g;refine(J.yh i R xs g q).ai.mono (F.kV.trans V) λB Q=>?_;rw[eZ B _ _ (iV R)]at Q;omega
   cases H
  cases H
 split at H;rename_i k;simp only[Ee]at k;cases H;exact⟨G,Pd.refl n,h.ai,yY a,AU a k.1,by rw[GJ];exact k.2⟩;cases H
theorem Jh{wl:Nat}:∀{l g:List AV}{X:List Value}{G:bD}{st st':aj},lN w G st->(∀b,cP b l X+cV b G.ls st<=1)->dg w G l X->lB wl l st=some (g,st')->
  ∃G',Pd w G st G' st'/\dg w G' g X/\AV.fJ g=true/\AV.aB g=true/\AV.bC g=true
 |[],g,X,G,st,st',j,z,h,H=>by
  simp only[lB,bw,cL]at H;obtain⟨rfl,rfl⟩:=H;exact⟨G,Pd.refl j,h,rfl,rfl,rfl⟩
 |a::l,g,X,G,st,st',j,z,h,H=>by
  simp only[lB]at H;split at H
  ·rename_i I qg C;split at H
   ·rename_i L pg D;cases H;cases X with
    |nil=>have:=h.1;simp at this|cons x X=>
    obtain⟨n,F,s,m,y,B⟩:=SU j (λb=>by have:=z b;omega) (h.2 0 a x rfl rfl) C;have Z:dg w G l X:=⟨by simpa using h.1,λi c v E q=>h.2 (i+1) c v (by simpa using E) (by simpa using q)⟩;have k:∀b,cP b l X+cV b n.ls qg<=1:=λb=>by
     have E:=z b;have q:=F.iw b;simp only[cP]at E;omega
    obtain⟨p,V,W,Y,J,t⟩:=Jh F.inv k (Z.mono F.kV λb K=>⟨F.AQ b (by have:=z b;simp only[cP]at this;omega),rfl⟩) D;refine⟨p,F.trans V,⟨by simp[W.1],λi c v E q=>?_⟩,by simp[AV.fJ,m,Y],by simp[AV.aB,y,J],?_⟩;cases i with
    |zero=>simp at E q;subst E;subst q;exact s.FB V.kV m|succ i=>exact W.2 i c v (by simpa using E) (by simpa using q)
    simp only[AV.bC,ajs,Ee]at t ⊢;exact⟨B,t⟩
   cases H
  cases H
theorem AW{wl:Nat}:∀{l g:List AV}{st st':aj},lB wl l st=some (g,st')->g.length=l.length
 |[],g,st,st',H=>by simp only[lB,bw,cL]at H;obtain⟨rfl,_⟩:=H;rfl|a::l,g,st,st',H=>by
  simp only[lB]at H;split at H;split at H;rename_i h;cases H;simp[AW h];cases H;cases H
theorem GM{wl:Nat}:∀{l L:List (List AV)}{X:List (List Value)}{G:bD}{st st':aj},lN w G st->(∀b,iC b l X+cV b G.ls st<=1)->l.length=X.length->(∀(i:Nat) r x,l[i]?=some r->X[i]?=some x->dg w G r x)->jV wl l st=some (L,st')->
  ∃G',Pd w G st G' st'/\L.length=l.length/\(∀(i:Nat) r x,L[i]?=some r->X[i]?=some x->dg w G' r x)/\(∀(i:Nat) r R,l[i]?=some r->L[i]?=some R->R.length=r.length)/\(∀r∈L,AV.fJ r=true)/\(∀r∈L,AV.aB r=true)/\(∀r∈L,AV.bC r=true)
 |[],L,X,G,st,st',j,z,m,h,g=>by
  simp only[jV,bw,cL]at g;obtain⟨rfl,rfl⟩:=g;exact⟨G,Pd.refl j,rfl,h,λi r R e=>by simp at e,by simp,by simp,by simp⟩
 |a::l,L,X,G,st,st',j,z,m,h,g=>by
  simp only[jV]at g;split at g
  ·rename_i Q qg p;split at g
   ·rename_i U pg O;cases g;cases X with
    |nil=>simp at m|cons x X=>
    obtain⟨t,F,C,n,D,I⟩:=Jh j (λb=>by have:=z b;simp only[iC]at this;omega) (h 0 a x rfl rfl) p;have k:∀b,iC b l X+cV b t.ls qg<=1:=λb=>by
     have E:=z b;have q:=F.iw b;simp only[iC]at E;omega
    obtain⟨v,V,W,Y,J,K,M,N⟩:=GM F.inv k (by simpa using m) (λi r y E q=>(h (i+1) r y (by simpa using E) (by simpa using q)).mono F.kV λb s=>⟨F.AQ b (by
     have B:=z b;have T:=BY b l X i r y E q;simp only[iC]at B;omega),rfl⟩) O
    refine⟨v,F.trans V,by simp[W],λi r y E q=>?_,λi r R E q=>?_,λr H=>?_,λr H=>?_,λr H=>?_⟩;cases i with
    |zero=>simp at E q;subst E;subst q;exact C.mono V.kV λb s=>by rw[eZ b _ _ n]at s;omega|succ i=>exact Y i r y (by simpa using E) (by simpa using q)
    cases i with
    |zero=>simp at E q;subst E;subst q;exact AW p|succ i=>exact J i r R (by simpa using E) (by simpa using q)
    rcases aev.1 H with rfl|H;exact n;exact K r H;rcases aev.1 H with rfl|H;exact D;exact M r H;rcases aev.1 H with rfl|H;exact I;exact N r H
   cases g
  cases g
theorem Dz{wl:Nat}{st st':aj}{j:AV}(n:lN w G st)(C:∀b,cV b G.ls st<=1)(h:bF w G a v)(H:jw wl a st=some (j,st')) :
  ∃G',Pd w G st G' st'/\bF w G' j v/\j.de=true:=by
 unfold jw at H;split at H
 ·rename_i id cW;split at H
  ·rename_i v0 s rows K;split at H
   ·rename_i D;simp only[Ee,aA,afh]at D;obtain⟨⟨rfl,iO⟩,_⟩:=D;split at H
    ·rename_i fO qg R;cases H;obtain⟨loc,I,X,Z,J⟩:=n.loc K;cases h with
     |mu _ _ _ N hp O CF he=>
     rw[I]at O;cases O;have rG:=he (by omega);subst rG;rcases J.tT with⟨_,th,_⟩|⟨b,off,c,e',T,iA,gK,eO,m,jW,fB⟩;subst th;simp at iO;obtain⟨F,k⟩:=LR n K I X Z;have Y:loc.kC=some b:=(by unfold nM.kC;rw[U (by omega),T];rfl);have p:∀B,iC B rows loc.vals+cV B (G.at id (nF s v0)).ls (st.set id (.rows (v0+1) s []))<=1:=λB=>by
      have g:=k B;have l:=C B;simp only[j8]at g;omega
     obtain⟨x,V,W,g3,g4,z,g6,g7⟩:=GM F.inv p J.xQ.symm (λi r y e1 e2=>(J.yh i r y e1 e2).mono F.kV λb _=>⟨rfl,rfl⟩) R;have h0:cV b (G.at id (nF s v0)).ls (st.set id (.rows (v0+1) s []))=0:=by
      have g:=k b;have l:=C b;simp only[j8,Y,bh]at g;omega
     have t:x.oY b=some 0:=(V.AQ b h0).trans jW;obtain⟨M,k2⟩:=PW V.inv t (by have:=V.iw b;omega);refine⟨x.HB b,⟨(F.kV.trans V.kV).trans M,k2,λB=>Nat.le_trans (V.iw B) (F.iw B),λB Q=>?_⟩,?_,by simp[AV.de]⟩;have q:B≠b:=by
      intro e;subst e;have g:=k B;simp only[j8,Y,bh]at g;omega
     simp only[bD.HB];rw[U q];exact V.AQ B (by have:=F.iw B;omega);rw[T,J.len,<-W];refine PX (vals:=loc.vals) (dj.2 λr hr=>?_) g7 z g6 (by rw[J.xQ,W]) (λi r xs g l=>(g3 i r xs g l).mono M λB Q=>by rw[eZ B _ _ (z r (eB g))]at Q;omega) (by rw[W];exact m) (ael.1 gK).1 (by simp[bD.HB]) fB;obtain⟨i,E,rfl⟩:=aec.1 hr;have L:i<rows.length:=(by rw[<-W];exact E);rw[g4 i rows[i] fO[i] (aas L) (aas E)];exact dj.1 J.yT _ (acH L)
    cases H
   cases H
  cases H
 cases H;cases h;exact⟨G,Pd.refl n,.aF,rfl⟩;cases H
end Ax
namespace Ax
open Go
variable {P:Program}{w w':World}{G G':bD}{β jm:List qh}{ρ:Operand->Value}{o:Oper}
theorem D8{s:Nat}{g:Type}:∀(n:Nat)(rows:List (List g)),(∀r∈rows,r.length=s)->rows.flatten.drop (n*s)=(rows.drop n).flatten
 |0,rows,_=>by simp|n+1,[],_=>by simp|n+1,r::rows,h=>by
  have H:r.length=s:=h r (by simp);have I:=D8 n rows λx l=>h x (by simp[l]);rw[List.drop_succ_cons,List.flatten_cons,<-I,aiu,Nat.add_comm,<-agO,<-H,List.drop_left]
theorem ajw{t tx ty e:TypeId}{sz:Nat}(ht:P.underlying t=some (.slice e))(K:dA P e sz=true)(p:(∃E,P.underlying tx=some (.slice E))\/P.underlying tx=some .string)
  {st:aj}{bx:bK}(z:lN w G st)(hB:mD w G β bx){cO:Nat->Nat}(hX:∀b,cO b+iJ b β bx+cV b G.ls st<=1)
  {s x:AV} {vs vx:Value} (hs:bF w G s vs) (R:bF w G x vx) {wl ah:Nat} {st':aj} {iz:bK} {r:fz} (H:bz wl ah (.copy sz) [.val s,.val x] st bx=some (r,st',iz)) :
  ∃v w' G',(Builtin.copy_ #[t,tx] ty #[vs,vx]).run P w=.ok v w'/\lC w G β st bx cO w' G' β st' iz r v:=by
 obtain⟨i,V,K⟩:∃i,P.info? e=some i/\i.size=sz:=by
  unfold dA at K;split at K;rename_i i V;exact⟨i,V,by simpa using K⟩;cases K
 unfold bz at H;simp only at H;split at H
 ·rename_i id cW x2 heq;simp only[List.cons.injEq,fz.val.injEq,and_true]at heq;obtain⟨rfl,rfl⟩:=heq;split at H
  ·rename_i v L jf new W uK;split at H
   ·rename_i hc;simp only[Ee,aA]at hc;obtain⟨⟨⟨⟨⟨rfl,rfl⟩,cm⟩,h⟩,_⟩,_⟩:=hc;cases H;obtain⟨N,fG,I,kD,ee,_⟩:=FA z R uK cm p;have Lc:∀b xs,cP b new.flatten xs=0:=λb xs=>eZ b _ _ ((dD _).2 λx R=>by
     obtain⟨r,Q,R⟩:=ai2.1 R;exact(dD r).1 (ee r Q) x R)
    obtain⟨loc,M,Fx,GB,J⟩:=z.loc W;cases hs with
    |mu _ _ _ loc' hp wQ CF he=>
    rw[M]at wQ;cases wQ;have rG:=he (by omega);subst rG;obtain⟨C,F,hfv,M7⟩:=J.flat;have T:=dj.1 J.yT;have Xd:loc.vals.flatten.length=jf.length*L:=(by rw[<-C.1];exact gX jf T);have Zc:N.length=new.length*L:=I.newsLen;have j:Nat.min new.length loc.len=new.length:=(by rw[J.len];exact Nat.min_eq_left h);by_cases iO:new=[];subst iO;have h0:N=[]:=ad8 (by simpa using Zc);subst h0;refine⟨.int .i64 0,w,G,?_,?_⟩;have m:=I.len;have n:=I.cells;simp only[ahv]at m n j;cases Z:loc.a<;>simp[Builtin.copy_,cn ht,Go.sizeOf,typeInfo,V,K,m,n,j,storeCells,goInt];have:st.set id (.rows v L ([]++jf.drop 0))=st:=jX st id _ (by simpa using W);simp only[ahv]at this ⊢;rw[this];exact lC.qw z hB (.int _ _) λb=>by simp[dz,iw]
    have hn:0<new.length:=agV.2 iO;rcases J.tT with⟨h0,m,_⟩|⟨b,off,c,E,Z,iA,Y,at8,O,jW,fB⟩;rw[m]at h;simp at h;exact au h iO;have SR:off+N.length<=c.size:=by
     rw[Zc];have:new.length*L<=loc.cap*L:=aez _ (by omega);omega
    have Hz:=jB (P:=P) b off E N c w Y SR I.one;have e1:(Builtin.copy_ #[t,tx] ty #[.slice loc.a loc.len loc.cap,vx]).run P w=.ok (.int .i64 new.length) (w.setRow b (ay c.toList off N).toArray):=by
     have m:=I.len;have n:=I.cells;simp[Builtin.copy_,cn ht,Go.sizeOf,typeInfo,V,K,m,n,j,Z,Hz,goInt]
    have lQ:=AT cm (b:=jf.drop new.length) (by rw[dj];exact λr Q=>T r (agN Q));have q:(new++jf.drop new.length).length=jf.length:=(by simp;omega);have xg:(new++jf.drop new.length).flatten=new.flatten++jf.flatten.drop (new.length*L):=by rw[alL,D8 _ _ T]
    let g:nM:=⟨some ⟨b,off,none⟩,loc.cap,(new++jf.drop new.length).length,L,v,false,vK L (new++jf.drop new.length).length (N++loc.vals.flatten.drop (new.length*L))⟩
    have Hx:∀(i:Nat) l,G.ls[i]?=some l->∃y,(G.at id g).ls[i]?=some y/\l.cW<=y.cW/\(l.cW=y.cW\/l.mp=true->y.hd=l.hd):=
     I9 M (by simp only[g];omega) λ_=>by simp only[g,nM.hd,Z,q,J.len,J.size,Fx]
    have Sh:(G.at id g).ls[id]?=some g:=by
     simp only[bD.at];rw[aek,af rfl,af (aac.1 M).1]
    have D:Wr w G (w.setRow b (ay c.toList off N).toArray) ⟨(G.at id g).ls,λB=>if B=b then some 0 else G.oY B⟩ b:=
     Ja Y SR jW (ah7 _) (acO _) Hx
    have iG:loc.kC=some b:=(by unfold nM.kC;rw[U (by omega),Z];rfl);refine⟨_,_,⟨(G.at id g).ls,λB=>if B=b then some 0 else G.oY B⟩,e1,?_⟩;refine xh z hB hX M W D.kV rfl ⟨rfl,rfl,qS (b:=b) (off:=off) (c:=(ay c.toList off N).toArray) (e:=E) (xs:=N++loc.vals.flatten.drop (new.length*L)) lQ (sM kD λr Q=>J.HY r (agN Q)) ?_ rfl rfl rfl rfl iA (setRow_heap w b c _ E (0,0) Y) (by rw[aiK,fF];simpa using at8) (by rw[q];exact O) (by simp) λk x p=>?_⟩
     (D.qi z) (λB _ X=>D.kX λe=>X (by rw[iG,e])) (by simp) rfl rfl (.int _ _) λB=>?_
    rw[xg];refine(fG.mono D.kV λB X=>by rw[Lc]at X;omega).append ((C.drop _).mono D.kV λB X=>D.kX λe=>?_);subst e;have h3:=BX B (new.length*L) _ _ C.1;rw[F]at h3;have m:=hX B;have n:=qQ B G.ls st id loc _ M W;simp only[j8,iG,bh]at n;omega;rw[xd Y SR];by_cases vR:k<N.length;rw[acJ vR]at p;rw[af (by omega),show off+k-off=k by omega];exact p;rw[acP (by omega),agL]at p;rw[U (by omega)];have:=M7 b off fB _ x p;rw[show new.length*L+(k-N.length)=k by omega]at this;exact this;have PM:g.kC=loc.kC:=by
     rw[iG];simp only[g];unfold nM.kC;rw[U (show ¬loc.cap=0 by omega)];rfl
    simp only[dz,iw,j8];rw[PM];simp only[g];rw[vL B (new++jf.drop new.length) _ (dj.1 lQ) (by rw[xg,adV,adV,fG.1,aiR,aiR,C.1]),xg,iB B _ _ _ _ fG.1,Lc];have:=BX B (new.length*L) _ _ C.1;rw[F]at this;omega
   cases H
  cases H
 cases H
end Ax
namespace Ax
open Go
variable {P:Program}{w w':World}{G G':bD}{β jm:List qh}{ρ:Operand->Value}{o:Oper}
theorem Xj{g:Type}(r:List g)(k:Nat)(v:g)(h:k<r.length):ay r k [v]=r.set k v:=by
 rw[l7 _ _ _ (by simp;omega)];rw[List.set_eq_take_append_cons_drop,af h];simp
theorem PY(b:Nat):∀(r:List AV)(X:List Value)(k:Nat)(v V:AV)(x:Value),r[k]?=some v->X[k]?=some x->cP b (r.set k V) X+iw b v x=cP b r X+iw b V x
 |[],_,_,_,_,_,h,_=>by simp at h|_::_,[],_,_,_,_,_,h=>by simp at h|r::rs,x::X,0,v,V,g,h,k=>by simp at h k;subst h;subst k;simp only[List.set_cons_zero,cP];omega|r::rs,x::X,i+1,v,V,g,h,k=>by
  have:=PY b rs X i v V g (by simpa using h) (by simpa using k);simp only[List.set_cons_succ,cP];omega
theorem PZ(G:bD)(ls:List nM):wZ w G w ⟨G.ls++ls,G.oY⟩ where
 ZD:=λ_ _ h=>⟨rfl,h⟩
 fP:=λid loc hl=>⟨loc,by
  rw[acJ (aac.1 hl).1];exact hl,acO _,λ_=>rfl⟩
theorem ae3{st:aj}{loc:nM}{O:dJ}(j:lN w G st)(h:tU w ⟨G.ls++[loc],G.oY⟩ O loc):lN w ⟨G.ls++[loc],G.oY⟩ (st++[O]) where
 len:=by simp[j.len]
 qi:=j.qi
 bO:=λid p l H g=>by
  simp only at g;by_cases k:id<st.length;rw[acJ k]at H;rw[acJ (by rw[j.len];exact k)]at g;exact(j.bO id p l H g).kV (PZ G _) λb _=>⟨rfl,rfl⟩;rw[acP (by omega)]at H;rw[acP (by rw[j.len];omega),j.len]at g;by_cases U:id-st.length=0;rw[U]at H g;simp at H g;subst H;subst g;exact h;obtain⟨n,hn⟩:∃n,id-st.length=n+1:=⟨id-st.length-1,by omega⟩;rw[hn]at H;simp at H
def y8(w:World)(a:Addr)(s:Nat)(rows:List (List AV)):List (List Value):=
 rows.mapIdx λi r=>r.mapIdx λj _=>(w.cell? ⟨a.block,a.off+(i*s+j),none⟩).getD Go.undef
theorem ae4{st:aj}{id V i k K E L:Nat}{rows F:List (List AV)}{r:List AV}{u:Value}(s:lN w G st)(hp:bF w G (.ptr id V i k) u)
  (iH:st[id]?=some (.rows V E rows))(I:rows[i]?=some r)(q:r[K]?=some (.raw L F)) :
  ∃G',Pd w G st G' ((st++[dJ.rows 0 L F]).set id (.rows V E (rows.set i (ay r K [.mu st.length 0])))):=by
 obtain⟨loc,b,o,c,e,X,hl,Fx,GB,J,PN,tV,iA,iG,gK,Y,C,jW,Q,D,fB⟩:=D7 s hp iH I;have O:K<r.length:=(aac.1 q).1;obtain⟨x,hx⟩:∃x,X[K]?=some x:=⟨_,aas (by rw[<-D.1];exact O)⟩;have fG:=D.2 _ _ _ q hx;cases fG with
 |raw _ _ a cap nU t cm ee sK CZ hc hr ht hb=>
 obtain⟨cc,ce,Ad,Ji⟩:=hb;have key:∀(i:Nat) r (j:Nat) c,F[i]?=some r->r[j]?=some c->∃v,(y8 w a L F)[i]?.bind (·[j]?)=some v/\w.cell? ⟨a.block,a.off+(i*L+j),none⟩=some v:=by
  intro i r j c H g;obtain⟨v,q⟩:=hc i r j c H g;exact⟨v,by simp[y8,H,g,q],q⟩
 have Se:∀(i:Nat) X (j:Nat) x,(y8 w a L F)[i]?=some X->X[j]?=some x->w.cell? ⟨a.block,a.off+(i*L+j),none⟩=some x:=by
  intro i X j x H g;simp only[y8,ang,aex]at H;obtain⟨r,m,rfl⟩:=H;simp only[ang,aex]at g;obtain⟨c,n,rfl⟩:=g;obtain⟨v,q⟩:=hc i r j c m n;rw[q];rfl
 have T:(some a:Option Addr)=some ⟨a.block,a.off,none⟩:=by rw[<-nU]
 let l:nM:=⟨some a,cap,F.length,L,0,false,y8 w a L F⟩
 let G':bD:=⟨G.ls++[l],G.oY⟩
 have p:wZ w G w G':=PZ G _;have hO:tU w G' (.rows 0 L F) l:=by
  refine⟨rfl,rfl,cm,CZ,rfl,rfl,by simp[l,y8],λi r X H g=>⟨?_,λj c v m n=>?_⟩,?_⟩;simp only[l,y8,ang,H,afo,bw]at g;subst g;simp;have y:=Se i X j v g n;exact(hr i r j c v H m y).FB p ((dD r).1 (ee r (eB H)) c (eB m));rcases Nat.eq_zero_or_pos cap with W|W;refine .inl ⟨W,?_,rfl⟩;cases F with
  |nil=>rfl|cons _ _=>simp at t;omega
  exact .inr ⟨a.block,a.off,cc,ce,T,W,Ad,Ji,t,ht,Se⟩
 have Lg:lN w G' (st++[dJ.rows 0 L F]):=ae3 s hO;have GH:id<st.length:=(aac.1 iH).1;have Hz:(st++[dJ.rows 0 L F])[id]?=some (.rows V E rows):=by rw[acJ GH];exact iH
 have N:G'.ls[id]?=some loc:=by
  show (G.ls++[l])[id]?=_;rw[acJ (by rw[s.len];exact GH)];exact hl
 have hmu:bF w G' (.mu st.length 0) (.slice (some a) F.length cap):=by
  refine .mu _ _ _ l ⟨_,_,_,rfl⟩ ?_ (acO _) λ_=>rfl;show (G.ls++[l])[st.length]?=_;rw[acP (by rw[s.len];exact acO _),s.len];simp
 have M:ay r K [AV.mu st.length 0]=r.set K (.mu st.length 0):=Xj r K _ O;have Z3:dg w G' r X:=⟨D.1,λj c v H g=>(D.2 j c v H g).kV p λ_ _=>⟨rfl,rfl⟩⟩;have uK:tU w G' (.rows V E (rows.set i (ay r K [.mu st.length 0]))) loc:=by
  rw[M];refine⟨Fx,GB,dj.2 λR Z=>?_,λR Z=>?_,by simp[J.len],J.size,by simp[J.xQ],λi' R Si H g=>?_,.inr ⟨b,o,c,e,tV,iA,gK,Y,by simpa using C,jW,fB⟩⟩;rcases aeT Z with h|h;exact dj.1 J.yT R h;rw[h,ao5];exact dj.1 J.yT r (eB I);rcases aeT Z with h|h;exact J.HY R h;rw[h,<-M];exact l9 (J.HY r (eB I)) (by simp[AV.bC,AV.cM]) (by simp;omega);rw[aek]at H;by_cases SO:i=i';subst SO;rw[af rfl]at H;split at H;cases H;rw[Q]at g;cases g;refine⟨by rw[ao5];exact D.1,λj c v m n=>?_⟩;rw[aek]at m;by_cases z:K=j;subst z;rw[af rfl,af O]at m;cases m;rw[hx]at n;cases n;exact hmu;rw[U z]at m;exact Z3.2 j c v m n;cases H;rw[U SO]at H;have m:=J.yh i' R Si H g;exact⟨m.1,λj c v n y=>(m.2 j c v n y).kV p λ_ _=>⟨rfl,rfl⟩⟩
 refine⟨G',p,H7 Lg (wZ.refl w G') (jX _ _ _ N).symm (λ_ _ _ _ _ _ _ _=>⟨rfl,rfl⟩) uK Lg.qi,λB=>?_,λ_ _=>rfl⟩;have H:=AP B G'.ls (st++[dJ.rows 0 L F]) id loc _ loc (.rows V E (rows.set i (ay r K [.mu st.length 0]))) N Hz;rw[jX _ _ _ N]at H;have n:=yl B rows loc.vals i r X (ay r K [.mu st.length 0]) X I Q;rw[jX _ _ _ Q]at n;have y:=PY B r X K _ (.mu st.length 0) _ q hx;rw[<-M]at y;have h6:cV B G'.ls (st++[dJ.rows 0 L F])=cV B G.ls st+cV B [l] [dJ.rows 0 L F]:=w6 B _ _ _ _ s.len;have h7:cV B [l] [dJ.rows 0 L F]<=iw B (.raw L F) (.slice (some a) F.length cap):=by
  simp only[cV,j8,iw,GF B F _ ee,l,nM.kC,Nat.add_zero];by_cases M3:cap=0;simp[M3];simp[M3]
 have h8:iw B (.mu st.length 0) (.slice (some a) F.length cap)=0:=by simp[iw]
 simp only[j8]at H;omega
end Ax
namespace Ax
open Go
variable {P:Program}{w w':World}{G G':bD}{β jm:List qh}{ρ:Operand->Value}{o:Oper}
def lY(P:Program)(ρ:Operand->Value)(o:Oper)(w:World)(G:bD)(β:List qh)(st:aj)(bx:bK)(cO:Nat->Nat)(nb:Option Nat)(r:fz)(st':aj)(iz:bK):Prop:=
 ∃n v w' G' jm,(execOp ρ o).run P w=.ok n w'/\(n=.value v\/n=.skip/\v=undef)/\lC w G β st bx cO w' G' jm st' iz r v/\gx nb β jm
theorem lY.qw{st:aj}{bx:bK}{cO:Nat->Nat}{nb:Option Nat}{r:fz}(g:lN w G st)(j:mD w G β bx){u:Value}(h:(execOp ρ o).run P w=.ok (.value u) w)(k:mX w G β r u)(H:∀b,dz b r u<=cO b):lY P ρ o w G β st bx cO nb r st bx:=
 ⟨_,u,w,G,β,h,.inl rfl,lC.qw g j k H,gx.refl _ _⟩
theorem lY.de{st:aj}{bx:bK}{cO:Nat->Nat}{nb:Option Nat}{a:AV}(g:lN w G st)(j:mD w G β bx){u:Value}(h:(execOp ρ o).run P w=.ok (.value u) w)(k:bF w G a u)(H:a.de=true):lY P ρ o w G β st bx cO nb (.val a) st bx:=
 lY.qw g j h k λb=>by simp only[dz,gw b a u H];omega
variable{xs:List Value}{rows:List (List AV)}
theorem nD.Xk{vals:List fz}{vs:List AV}(h:nD w G β vals xs)(p:kS vals=some vs):dg w G vs xs/\∀b,oZ b vals xs=cP b vs xs:=by
 obtain⟨E,q,k⟩:=h.vals p;exact⟨⟨q,k⟩,λb=>by rw[E,IN]⟩
theorem D9(h:rows.all AV.bC=true):∀r∈rows,AV.bC r=true:=by simpa using h
theorem P6(h:rows.all AV.aB=true):∀r∈rows,AV.aB r=true:=by simpa using h
theorem Ea{sz:Nat}{p:AV->Prop}:∀(q:List Nat)(vs:List AV)(rows F:List (List AV)),(∀r∈rows,∀c∈r,p c)->(∀v∈vs,∀c∈v.cells,p c)->iK sz rows q vs=some F->∀r∈F,∀c∈r,p c
 |[],[],rows,F,g,_,h=>by simp[iK]at h;subst h;exact g|[],_::_,_,_,_,_,h=>by simp[iK]at h|_::_,[],_,_,_,_,h=>by simp[iK]at h|i::q,v::vs,rows,F,g,j,h=>by
  simp only[iK]at h;split at h;refine Ea q vs _ F (λr k=>?_) (λu l=>j u (by simp[l])) h;rcases aeT k with H|H;exact g r H;rw[H];exact j v (by simp);cases h
theorem P7{v:AV}(h:v.de=true):∀c∈v.cells,c.de=true:=by
 cases v<;>simp_all [AV.cells,AV.de];exact(dD _).1 h
theorem P8(vs:List AV):∀v∈AV.cC vs,v.de=true:=(dD _).1 (iV vs)
theorem Jj{x:Option Operand}{d a:Int}{vals g:List fz}(h:wW x.isSome d vals=some (a,g))(z:nD w G β vals (x.toList.map ρ++xs)):Du ρ x d a/\nD w G β g xs:=by
 unfold wW at h;cases x with
 |none=>simp at h;obtain⟨rfl,rfl⟩:=h;exact⟨.inl ⟨rfl,rfl⟩,by simpa using z⟩|some y=>
  simp only[Option.isSome_some,bh]at h;split at h;rename_i n r;cases h;simp only[aot,aei,List.map_nil,List.cons_append,aeN,nD,mX]at z;exact⟨.inr ⟨y,rfl,z.1.iN⟩,z.2⟩;cases h
theorem BZ{c:Call}{t u:TypeId}(g:c.argTypes.size=2)(h:c.argTypes[0]?=some t)(H:c.argTypes[1]?=some u):c.argTypes = #[t,u]:=by
 apply Array.ext_getElem?;intro i;match i with
 |0=>simpa using h|1=>simpa using H|i+2=>simp;omega
section
variable {S:Nat->Option aL}{so:ct}{vals:List fz}{wl ah:Nat}{st st':aj}{bx iz:bK}{cO:Nat->Nat}{r:fz}
theorem ae7{t:TypeId}{x:Operand}{T J M:Option Operand}{U:Bool}{sz:Nat}(I:o.op=.slice t x T J M)(F:M.isSome=true->J.isSome=true)
  (g:match P.underlying t with|some (.slice e)=>(!U&&dA P e sz)=true|some .string=>(U && !M.isSome)=true|_=>False)(D:lN w G st)(C:mD w G β bx)
  (hR:nD w G β vals ((BW x T J M).map ρ)) (hcO:∀b,oZ b vals ((BW x T J M).map ρ)<=cO b) (j:bz wl ah (.slice U T.isSome J.isSome M.isSome sz) vals st bx=some (r,st',iz)) :
  lY P ρ o w G β st bx cO none r st' iz:=by
 simp only[BW,aei,List.map_append]at hR;unfold bz at j;simp only at j;split at j;rename_i a l;obtain⟨h,X⟩:=hR;simp only[mX]at h;split at j;cases j;rename_i n k;split at j;cases j;rename_i lov l1 FC;obtain⟨y,W⟩:=Jj FC (xs:=J.toList.map ρ++M.toList.map ρ) (by simpa [afd] using X);split at j;cases j;rename_i hiv l2 Y;obtain⟨B,Q⟩:=Jj Y W;split at j;rename_i Z;have V:M=none:=by cases M<;>simp_all
 subst V;split at j;rename_i v p;cases j;unfold mL at p;split at p;rename_i s;split at p;rename_i H;simp only[Ee,aA]at H;obtain⟨⟨⟨_,K⟩,L⟩,O⟩:=H;cases p;simp only[bh,td,bw]at k;subst k;have hus:P.underlying t=some .string:=by
  split at g;simp at g
  assumption
  exact g.elim
 obtain⟨u,E,q⟩:=SF I hus h y B K L O;exact lY.de D C E q rfl;cases p;simp only[aiW]at p;split at p;rename_i H;simp only[Ee,aA]at H;obtain⟨rfl,rfl⟩:=H;cases p;simp only[td,fA]at k;cases k;split at g;rename_i e N;simp only[Ee]at g;exact lY.de D C (IX I N g.2 h y B (.inl rfl)) .aF rfl;simp at g;exact g.elim;cases p;simp only[aiW]at p;split at p;rename_i H;simp only[Ee,aA]at H;obtain⟨rfl,rfl⟩:=H;cases p;simp only[td,fA]at k;cases k;split at g;rename_i e N;simp only[Ee]at g;obtain⟨u,E,q⟩:=GC I N g.2 h y B (.inl rfl);exact lY.de D C E q rfl;simp at g;exact g.elim;cases p;rename_i s rows;simp only at p;split at p;rename_i H;simp only[Ee,aA]at H;obtain⟨⟨⟨rfl,K⟩,L⟩,O⟩:=H;cases p;simp only[td,fA]at k;cases k;split at g;rename_i e N;simp only[Ee]at g;obtain⟨u,E,q⟩:=IW I N g.2 h y B K L O;exact lY.de D C E q rfl;simp at g;exact g.elim;cases p;rename_i s rows;simp only at p;split at p;rename_i H;simp only[Ee,aA]at H;obtain⟨⟨⟨rfl,K⟩,L⟩,O⟩:=H;cases p;simp only[td,fA]at k;cases k;split at g;rename_i e N;simp only[Ee]at g;obtain⟨u,E,q⟩:=IW I N g.2 h.ai y B K L O;exact lY.de D C E q rfl;simp at g;exact g.elim;cases p;cases p;cases j;rename_i m Z;obtain⟨z,rfl⟩:∃z,M=some z:=by cases M<;>simp_all
 simp only[aot,aei,List.map_nil,nD,mX]at Q;have R:=Q.1.iN;split at j;rename_i v p;cases j;unfold mL at p;split at p;simp at p;simp only at p;split at p;rename_i H;simp only[Ee,aA,cD]at H;obtain⟨⟨rfl,rfl⟩,rfl⟩:=H;cases p;simp only[td,fA]at k;cases k;split at g;rename_i e N;simp only[Ee]at g;exact lY.de D C (IX I N g.2 h y B (.inr ⟨z,rfl,F rfl,R⟩)) .aF rfl;simp at g;exact g.elim;cases p;simp only at p;split at p;rename_i H;simp only[Ee,aA,cD]at H;obtain⟨⟨rfl,rfl⟩,rfl⟩:=H;cases p;simp only[td,fA]at k;cases k;split at g;rename_i e N;simp only[Ee]at g;obtain⟨u,E,q⟩:=GC I N g.2 h y B (.inr ⟨z,rfl,F rfl,R⟩);exact lY.de D C E q rfl;simp at g;exact g.elim;cases p;rename_i s rows;simp only at p;split at p;rename_i H;simp only[Ee,aA]at H;obtain⟨⟨rfl,rfl⟩,rfl⟩:=H;cases p;simp only[td,fA]at k;cases k;split at g;rename_i e N;simp only[Ee]at g;obtain⟨u,E,q⟩:=IY I N g.2 h y B (F rfl) R;exact lY.de D C E q rfl;simp at g;exact g.elim;cases p;rename_i s rows;simp only at p;split at p;rename_i H;simp only[Ee,aA]at H;obtain⟨⟨rfl,rfl⟩,rfl⟩:=H;cases p;simp only[td,fA]at k;cases k;split at g;rename_i e N;simp only[Ee]at g;obtain⟨u,E,q⟩:=IY I N g.2 h.ai y B (F rfl) R;exact lY.de D C E q rfl;simp at g;exact g.elim;cases p;cases p;cases j;cases j;cases j
end
end Ax
