/- Part of a proof. -/
import Derived.Test.YtpnadocbfbbboaaGreatA2
import Derived.IntWalk

namespace Ax
open Go
variable {P:Program}{w w':World}{G G':aQ}{β gw:List mS}{ρ:Operand->Value}{o:Oper}
theorem sU{st:ai}{bx:aX}{cO:Nat->Nat}(hI:jn w G st)(hB:j5 w G β bx)(hX:∀b,cO b+fR b β bx+cj b G.ls st<=1){id:Nat}{loc loc':lB}{ob JO:fq}{e:eO}{v:Value}
  (hl:G.ls[id]?=some loc)(gi:st[id]?=some ob)(hs:sK w G w' G')(Sz:G'.ls=G.ls.set id loc')(ua:p6 w' G' JO loc')(ht:∀b p,G'.mj b=some p->b<w'.heap.size)
  (Ka:∀b,b<w.heap.size->loc.jK≠some b->dZ w G w' G' b) (SD:w.heap.size<=w'.heap.size) (Mj:w'.os=w.os) (x5:w'.output=w.output) (dG:kF w' G' β e v)
  (hc:∀b,cx b e v+iJ b loc' JO<=cO b+iJ b loc ob+(if w.heap.size<=b then 1 else 0)):jo w G β st bx cO w' G' β (st.set id JO) bx e v:=by
 have fD:∀b,loc.jK=some b->iJ b loc ob ≥ 1:=by
  intro b hb;cases ob<;>simp[iJ,hb]
 refine⟨hs,CS hI hs Sz (λi l ob2 b hi h1 h2 h3=>?_) ua ht,nj hB hs λb hb=>?_,dG,λb=>?_,λb hb bw=>?_,SD,Mj,x5⟩;refine Ka b ((hI.bC i ob2 l h2 h1).held h3) λhb=>?_;have h4:=fD b hb;have h5:=J5 b G.ls st i id l ob2 loc ob hi h1 h2 hl gi;have:=hX b;omega;refine Ka b (hB.held hb) λnD=>?_;have h4:=fD b nD;have h5:=nI b G.ls st id loc ob hl gi;have:=hX b;omega;have h1:=wh b G.ls st id loc ob loc' JO hl gi;have h2:=hc b;rw[Sz];omega;refine Ka b bw λnD=>?_;have h4:=fD b nD;have h5:=nI b G.ls st id loc ob hl gi;omega
theorem v9.flat{sz:Nat}{rows:List (List AV)}{loc:lB}(h:v9 w G sz rows loc):cn w G rows.flatten loc.vals.flatten/\(∀b,bU b rows.flatten loc.vals.flatten=fL b rows loc.vals)/\(∀r∈loc.vals,r.length=sz)/\
  ∀b off,(∀(i:Nat) xs (j:Nat) x,loc.vals[i]?=some xs->xs[j]?=some x->w.cell? ⟨b,off+(i*sz+j),none⟩=some x)->∀(k:Nat) x,loc.vals.flatten[k]?=some x->w.cell? ⟨b,off+k,none⟩=some x:=by
 have Oa:∀r∈loc.vals,r.length=sz:=λr hr=>by
  obtain⟨i,hi,rfl⟩:=List.mem_iff_getElem.1 hr;have qK:i<rows.length:=by rw[<-h.tE];exact hi
  rw[<-(h.tX i rows[i] loc.vals[i] (List.getElem?_eq_getElem qK) (List.getElem?_eq_getElem hi)).1];exact cq.1 h.Gg _ (List.getElem_mem qK)
 refine⟨uL rows loc.vals h.tE.symm h.tX,λb=>zx b rows loc.vals h.tE.symm λi r xs h1 h2=>(h.tX i r xs h1 h2).1,Oa,λb off hc k x hx=>?_⟩;obtain⟨i,j,r,rfl,e2,e3⟩:=pF loc.vals k x Oa hx;exact hc i r j x e2 e3
theorem SE{st:ai}{bx:aX}{cO:Nat->Nat}(hI:jn w G st)(hB:j5 w G β bx){sz:Nat}{a:Option Addr}(HZ:a.isSome=true) :
  ∃G',jo w G β st bx cO w G' β (st++[.rows 0 sz []]) bx (.val (.mu st.length 0)) (.slice a 0 0):=by
 have FA:∀(id:Nat) loc,G.ls[id]?=some loc->∃loc',(G.ls++[⟨a,0,0,sz,0,false,[]⟩])[id]?=some loc'/\loc.b6<=loc'.b6/\(loc.b6=loc'.b6\/loc.mp=true->loc'.hd=loc.hd):=λid loc h=>
  ⟨loc,by rw[List.getElem?_append_left (List.getElem?_eq_some_iff.1 h).1];exact h,Nat.le_refl _,λ_=>rfl⟩
 have hs:sK w G w ⟨G.ls++[⟨a,0,0,sz,0,false,[]⟩],G.mj⟩:=⟨λ_ _ h=>⟨rfl,h⟩,FA⟩;refine⟨⟨G.ls++[⟨a,0,0,sz,0,false,[]⟩],G.mj⟩,hs,⟨by simp[hI.len],λid ob loc h1 h2=>?_,hI.mT⟩,nj hB hs λb _=>⟨rfl,rfl⟩,.mu _ _ _ ⟨a,0,0,sz,0,false,[]⟩ ⟨_,_,_,rfl⟩ ?_ (Nat.le_refl _) λ_=>rfl,λb=>?_,λb _ _=>⟨rfl,rfl⟩,Nat.le_refl _,rfl,rfl⟩;by_cases JP:id<st.length;rw[List.getElem?_append_left JP]at h1;simp only at h2;rw[List.getElem?_append_left (by rw[hI.len];exact JP)]at h2;exact(hI.bC id ob loc h1 h2).jj hs λb _=>⟨rfl,rfl⟩;rw[List.getElem?_append_right (by omega)]at h1;simp only at h2;rw[List.getElem?_append_right (by rw[hI.len];omega),hI.len]at h2;have h0:id-st.length=0:=by have:=(List.getElem?_eq_some_iff.1 h1).1;simp at this;omega
 rw[h0]at h1 h2;simp at h1 h2;subst h1;subst h2;exact⟨rfl,rfl,by simp[bV],by simp,rfl,rfl,rfl,λi r xs h=>by simp at h,.inl ⟨rfl,rfl,HZ⟩⟩;simp only;rw[List.getElem?_append_right (by rw[hI.len];exact Nat.le_refl _),hI.len];simp;simp only[cx,fG];rw[sL b _ _ _ _ hI.len];have h0:cj b [⟨a,0,0,sz,0,false,[]⟩] [.rows 0 sz []]=0:=by simp[cj,iJ,lB.jK,fL]
 rw[h0];omega
structure abx (P:Program)(t tx ty e:TypeId)(sz bytes:Nat)(x:Value)(n:Nat)(news:List Value)(w:World):Prop where
 newsLen:news.length=n*sz
 CT:n=0->∀base gp kj,gp<=kj->(Builtin.append_ #[t,tx] ty #[.slice base gp kj,x]).run P w=.ok (.slice base gp kj) w
 dx:∀(b off gp kj:Nat) (dQ:Array Value) (e0:TypeId),w.heap[b]?=some (.cells dQ e0 (0,0))->gp+n<=kj->off+kj*sz<=dQ.size->
  (Builtin.append_ #[t,tx] ty #[.slice (some ⟨b,off,none⟩) gp kj,x]).run P w=.ok (.slice (some ⟨b,off,none⟩) (gp+n) kj) (w.setRow b (ah dQ.toList (off+gp*sz) news).toArray)
 new:∀(base:Option Addr) (gp kj:Nat) (olds:List Value),(Builtin.firstCells sz gp (.slice base gp kj)).run P w.drew=.ok olds.toArray w.drew->olds.length=gp*sz->kj<gp+n->(gp+n)*bytes<=140737488355328->
  ∃cap c,(Builtin.append_ #[t,tx] ty #[.slice base gp kj,x]).run P w=.ok (.slice (some ⟨w.heap.size,0,none⟩) (gp+n) cap) (w.drew.alloc (.cells c e))/\gp+n<=cap/\cap*sz<=c.size/\
   ∀(k:Nat) v,(olds++news)[k]?=some v->c[k]?=some v
theorem SF{t tx ty e:TypeId}{sz bytes:Nat}{i:TypeInfo}{z:Value}(h:MB P t tx e sz bytes i z){x:Value}{n:Nat}{news:List Value}(hs:Go.Src P sz tx x n news w):abx P t tx ty e sz bytes x n news w where
 newsLen:=hs.newsLen
 CT:=λh0 base gp kj hle=>by
  subst h0;have hn:news=[]:=List.eq_nil_of_length_eq_zero (by simpa using hs.newsLen);subst hn;exact run_append_nothing w t tx ty e i h.ht h.hi base gp kj hle x (by rw[h.eI];exact hs)
 dx:=λb off gp kj dQ e0 hg h1 h2=>rA h b off gp kj dQ e0 hg x n news hs h1 h2
 new:=λbase gp kj olds hold Qp hg hb=>rB h base gp kj olds hold Qp x n news hs hg hb
theorem H6(z:Array Value)(n sz:Nat)(hz:z.size=sz):(Builtin.zeroCells z n).toList=((Array.range (n*sz)).map (z[· % z.size]!)).toList:=by
 subst hz;rfl
theorem MD{t tx ty e:TypeId}{sz bytes:Nat}{i:TypeInfo}{z:Value}(ht:P.underlying t=some (.slice e))(hk:∃k,P.underlying tx=some (.int k))(hi:P.info? e=some i)(hz:i.zero=some z)(eI:i.size=sz)(Xj:i.bytes=bytes)
  (Sq:z.cells.size=sz)(pos:0<sz)(SA:0<bytes){n:Int}(h0:0<=n)(hr:n*bytes<=140737488355328)(w:World)(mz:∀u∈(Builtin.zeroCells z.cells n.toNat).toList,u.oneCell'=true) :
  abx P t tx ty e sz bytes (.int .i64 n) n.toNat (Builtin.zeroCells z.cells n.toNat).toList w:=by
 obtain⟨k,hk⟩:=hk;subst eI;subst Xj;have hn:n<=140737488355328:=by
  have:n*1<=n*i.bytes:=Int.mul_le_mul_of_nonneg_left (by omega) (by omega);omega
 have hw:IntKind.i64.wrap n=n:=IntWalk.i64_in n ⟨by omega,by omega⟩;have Qr:¬n<0:=by omega
 have Xn:¬(281474976710656<n*i.bytes):=by omega
 have hlen:(Builtin.zeroCells z.cells n.toNat).toList.length=n.toNat*i.size:=by rw[Array.length_toList,size_zeroCells,Sq]
 refine⟨hlen,λe0 base gp kj hle=>?_,λb off gp kj dQ e0 hg h1 h2=>?_,λbase gp kj olds hold Qp hg hb=>?_⟩;have FC:n=0:=by omega
 subst FC;cases base<;>simp[Builtin.append_,run_underlying ht,run_underlying hk,Go.sizeOf,typeInfo,hi,asInt,asIntOf,hw,hle,storeCells];have hle:off+gp*i.size+n.toNat*i.size<=dQ.size:=by
  have:(gp+n.toNat)*i.size<=kj*i.size:=Nat.mul_le_mul_right _ h1;rw[Nat.add_mul]at this;omega
 have gi:=gQ (P:=P) b (off+gp*i.size) e0 _ dQ w hg (by rw[hlen];exact hle) mz;by_cases Ww:n.toNat*i.size=0;have FC:(Builtin.zeroCells z.cells n.toNat).toList=[]:=List.eq_nil_of_length_eq_zero (by rw[hlen,Ww]);rw[FC]at gi ⊢;simp[Builtin.append_,run_underlying ht,run_underlying hk,Go.sizeOf,typeInfo,hi,asInt,asIntOf,hw,Qr,Xn,Ww,h1,Addr.add_lit,gi];simp[Builtin.append_,run_underlying ht,run_underlying hk,Go.sizeOf,typeInfo,zeroValue,hi,hz,asInt,asIntOf,hw,Qr,Xn,Ww,h1,Addr.add_lit,gi];have hn:¬(gp+n.toNat<=kj):=by omega
 have h63:¬(9223372036854775807<((gp:Int)+(n.toNat:Int))):=by have:=Oc hb SA;omega
 have af1:¬(9223372036854775807<((gp:Int)+max n 0)):=by omega
 have h48:¬(281474976710656<Builtin.nextslicecap (gp+n.toNat) kj*i.bytes):=by have:=growslice_fits hg hb;omega
 refine⟨grownCap w (gp+n.toNat) kj e,(olds++(Builtin.zeroCells z.cells n.toNat).toList).toArray++Builtin.zeroCells z.cells (grownCap w (gp+n.toNat) kj e-(gp+n.toNat)),?_,grownCap_ge _ _ _ _,?_,λk v hv=>?_⟩;by_cases Ww:n.toNat*i.size=0;have FC:(Builtin.zeroCells z.cells n.toNat).toList=[]:=List.eq_nil_of_length_eq_zero (by rw[hlen,Ww]);rw[FC];simp[Builtin.append_,run_underlying ht,run_underlying hk,Go.sizeOf,typeInfo,zeroValue,hi,hz,asInt,asIntOf,hw,Qr,Xn,hn,af1,h48,Ww,Question.forced,hold,newRow,grownCap];simp[Builtin.append_,run_underlying ht,run_underlying hk,Go.sizeOf,typeInfo,zeroValue,hi,hz,asInt,asIntOf,hw,Qr,Xn,hn,af1,h48,Ww,Question.forced,hold,newRow,grownCap];congr 2;apply Array.ext';simp[List.append_assoc];have h1:=grownCap_ge w (gp+n.toNat) kj e;rw[Array.size_append,size_zeroCells,Sq];simp only[List.size_toArray,List.length_append,Qp,hlen];rw[<-Nat.add_mul,<-Nat.add_mul];exact Nat.mul_le_mul_right _ (by omega);have hk:=(List.getElem?_eq_some_iff.1 hv).1;rw[Array.getElem?_append,if_pos (by simpa using hk)];simpa using hv
theorem SG{t tx ty e:TypeId}{sz bytes:Nat}{st:ai}{bx:aX}(hI:jn w G st)(hB:j5 w G β bx){cO:Nat->Nat}(hX:∀b,cO b+fR b β bx+cj b G.ls st<=1)
  {s:AV}{vs vx:Value}(hs:aS w G s vs){new:List (List AV)}{news:List Value}(dG:cn w G new.flatten news)(oq:abx P t tx ty e sz bytes vx new.length news w)(iV:∀r∈new,AV.aO r=true)(iz:∀r∈new,AV.dN r=true)
  {wl J:Nat} {st':ai} {fH:aX} {r:eO} (ha:xY wl J sz bytes s new st bx=some (r,st',fH)) :
  ∃v w' G',(Builtin.append_ #[t,tx] ty #[vs,vx]).run P w=.ok v w'/\jo w G β st bx cO w' G' β st' fH r v:=by
 unfold xY at ha
 ·split at ha
  ·rename_i cI;have FC:∀b xs,bU b new.flatten xs=0:=λb xs=>dy b _ _ ((cA _).2 λx hx=>by
    obtain⟨r,hr,hx⟩:=List.mem_flatten.1 hx;exact(cA r).1 (iz r hr) x hx)
   have tG:new=[]->news=[]:=λh0=>by
    subst h0;have:=dG.1;simp at this;exact List.eq_nil_of_length_eq_zero this.symm
   have fresh:∀base,(Builtin.firstCells sz 0 (.slice base 0 0)).run P w.drew=.ok ([]:List Value).toArray w.drew->new.length*bytes<=dx->(new=[]->base.isSome=true)->
     ∃v w' G',(Builtin.append_ #[t,tx] ty #[.slice base 0 0,vx]).run P w=.ok v w'/\jo w G β st bx cO w' G' β (st++[.rows 0 sz new]) bx (.val (.mu st.length 0)) v:=by
    intro base hf hr hbs;by_cases iR:new=[];have:=tG iR;subst this;subst iR;have:=oq.CT rfl base 0 0 (Nat.le_refl _);obtain⟨G',hA⟩:=SE (w:=w) (G:=G) (β:=β) (cO:=cO) (sz:=sz) (a:=base) hI hB (hbs rfl);exact⟨_,_,_,this,hA⟩;have hn:0<new.length:=List.length_pos_iff.2 iR;obtain⟨cap,c,e1,e2,e3,e4⟩:=oq.new base 0 0 [] hf (by simp) (by omega) (by simpa [dx] using hr);simp only[Nat.zero_add,List.nil_append]at e1 e2 e4;obtain⟨G',hA,_⟩:=wm (w':=w.drew.alloc (.cells c e)) (cO:=cO) hI hB rfl rfl rfl cI iV dG (by omega) e3 e2 e4 (λb=>by rw[FC];omega);exact⟨_,_,G',e1,hA⟩
   split at ha;split at ha;rename_i AW;cases ha;have h0:new=[]:=(by simpa using AW);have:=tG h0;subst this;subst h0;cases hs;have:=oq.CT rfl none 0 0 (Nat.le_refl _);exact⟨_,_,_,this,jo.ni hI hB (aS.U) λb=>by simp[cx,fG]⟩;split at ha;rename_i hr;cases ha;cases hs;exact fresh none (run_firstCells_none _ _ _ _ _) hr λh=>absurd h (by rename_i AW;simpa using AW);cases ha;split at ha;rename_i hr;cases ha;cases hs with
   |lU a=>exact fresh (some a) (by simp[Builtin.firstCells,loadCells,loadCellsFrom]) hr λ_=>rfl
   cases ha
   ·rename_i id b6;split at ha
    ·rename_i v jw old gi;split at ha
     ·rename_i hc;simp only[Bool.and_eq_true,decide_eq_true_eq]at hc;obtain⟨⟨⟨⟨rfl,rfl⟩,hr⟩,_⟩,_⟩:=hc;cases ha;obtain⟨loc,hl,BQ,zu,gY⟩:=hI.loc gi;cases hs with
      |mu _ _ _ loc' hp pZ Cp he=>
      rw[hl]at pZ;cases pZ;have cG:=he (by omega);subst cG;obtain⟨Gl,Xl,hfv,H7⟩:=gY.flat;have FA:∀l':lB,l'.b6=v+1->∀(i:Nat) l,G.ls[i]?=some l->∃Xo,(G.at id l').ls[i]?=some Xo/\l.b6<=Xo.b6/\(l.b6=Xo.b6\/l.mp=true->Xo.hd=l.hd):=λl' hv=>
       DI hl (by omega) λh=>by rcases h with h|h<;>simp_all<;>omega
      have Od:∀l':lB,(G.at id l').ls[id]?=some l':=λl'=>by
       simp only[aQ.at];rw[List.getElem?_set,if_pos rfl,if_pos (List.getElem?_eq_some_iff.1 hl).1]
      by_cases iR:new=[];have:=tG iR;subst this;subst iR;have hle:loc.len<=loc.cap:=by
       rcases gY.p0 with⟨h0,h1,_⟩|⟨b,off,c,e',sd,fI,fj,eI,hlen,iC,dF⟩;rw[gY.len,h1];simp;rw[gY.len];exact hlen
      have:=oq.CT rfl loc.a loc.len loc.cap hle;have ME:sK w G w (G.at id { loc with b6:=v+1 }):=⟨λ_ _ h=>⟨rfl,h⟩,FA _ rfl⟩;refine⟨_,_,G.at id { loc with b6:=v+1 },this,sU hI hB hX hl gi ME rfl ?_ hI.mT (λb _ _=>⟨rfl,rfl⟩) (Nat.le_refl _) rfl rfl (.mu _ _ _ { loc with b6:=v+1 } ⟨_,_,_,rfl⟩ (Od _) (Nat.le_refl _) λ_=>rfl) λb=>?_⟩;have:=(p6.jj (w':=w) (G':=G.at id { loc with b6:=v+1 }) (show p6 w G (.rows v jw old) loc from⟨BQ,zu,gY⟩) ME λb _=>⟨rfl,rfl⟩);obtain⟨_,_,h3⟩:=this;rw[List.append_nil];exact⟨BQ,rfl,h3.Gg,h3.CO,h3.len,h3.size,h3.tE,h3.tX,h3.p0⟩;simp only[cx,fG,List.append_nil];show 0+iJ b loc (.rows v jw old)<=cO b+iJ b loc (.rows v jw old)+_;omega;have hn:0<new.length:=List.length_pos_iff.2 iR;have jG:=wu gY.Gg cI;have sS:(old++new).flatten=old.flatten++new.flatten:=List.flatten_append;have Qp:loc.vals.flatten.length=old.length*jw:=(by rw[<-Gl.1];exact fy old (cq.1 gY.Gg));have Mk:news.length=new.length*jw:=oq.newsLen;by_cases sR:old.length+new.length<=loc.cap;rcases gY.p0 with⟨h0,h1,_⟩|⟨b,off,c,e',sd,fI,fj,eI,hlen,iC,dF⟩;omega;have hle:off+old.length*jw+news.length<=c.size:=by
       rw[Mk];have:(old.length+new.length)*jw<=loc.cap*jw:=Nat.mul_le_mul_right _ sR;rw[Nat.add_mul]at this;omega
      have e1:=oq.dx b off old.length loc.cap c e' fj sR eI;rw[sd,gY.len];have af2:=FA ⟨some ⟨b,off,none⟩,loc.cap,(old++new).length,jw,v+1,false,rq jw (old++new).length (loc.vals.flatten++news)⟩ rfl;have hW:Wr w G (w.setRow b (ah c.toList (off+old.length*jw) news).toArray) ⟨(G.at id ⟨some ⟨b,off,none⟩,loc.cap,(old++new).length,jw,v+1,false,rq jw (old++new).length (loc.vals.flatten++news)⟩).ls,λb'=>if b'=b then some 0 else G.mj b'⟩ b:=
       DJ fj hle iC (Nat.zero_le _) (Nat.le_refl _) af2
      have fD:loc.jK=some b:=(by unfold lB.jK;rw[if_neg (by omega),sd];rfl);refine⟨_,_,⟨(G.at id ⟨some ⟨b,off,none⟩,loc.cap,(old++new).length,jw,v+1,false,rq jw (old++new).length (loc.vals.flatten++news)⟩).ls,λb'=>if b'=b then some 0 else G.mj b'⟩,e1,?_⟩;refine sU hI hB hX hl gi hW.jj rfl ⟨rfl,rfl,nK (b:=b) (off:=off) (c:=(ah c.toList (off+old.length*jw) news).toArray) (e:=e') (xs:=loc.vals.flatten++news) jG (o5 gY.CO iV) ?_ rfl rfl rfl rfl fI (setRow_heap w b c _ e' (0,0) fj) (by rw[List.size_toArray,dL];simpa using eI) (by simpa using sR) (by simp) λk x hk=>?_⟩
       (hW.mT hI) (λb' _ nD=>hW.jl λe=>nD (by rw[fD,e])) (by simp) rfl rfl (.mu _ _ _ _ ⟨_,_,_,rfl⟩ (Od _) (Nat.le_refl _) λ_=>by simp) λb'=>?_
      rw[sS];refine(Gl.mono hW.jj λb' nD=>hW.jl λe=>?_).append (dG.mono hW.jj λb' nD=>by rw[FC]at nD;omega);subst e;rw[Xl]at nD;have h1:=hX b';have h2:=nI b' G.ls st id loc _ hl gi;simp only[iJ,fD,if_true]at h2;omega;rw[sQ fj hle];by_cases Kc:k<loc.vals.flatten.length;rw[List.getElem?_append_left Kc]at hk;rw[if_neg (by omega)];exact H7 b off dF k x hk;rw[List.getElem?_append_right (by omega)]at hk;have bw:=(List.getElem?_eq_some_iff.1 hk).1;rw[if_pos (by omega),show off+k-(off+old.length*jw)=k-loc.vals.flatten.length by omega];exact hk;have Ke:(⟨some ⟨b,off,none⟩,loc.cap,(old++new).length,jw,v+1,false,rq jw (old++new).length (loc.vals.flatten++news)⟩:lB).jK=loc.jK:=by
       rw[fD];unfold lB.jK;rw[if_neg (show ¬loc.cap=0 by omega)];rfl
      simp only[cx,fG,iJ];rw[Ke,ru b' (old++new) _ (cq.1 jG) (by rw[sS,List.length_append,List.length_append,Gl.1,dG.1]),sS,fK b' _ _ _ _ Gl.1,FC,Xl];omega;have hf:(Builtin.firstCells jw loc.len (.slice loc.a loc.len loc.cap)).run P w.drew=.ok loc.vals.flatten.toArray w.drew:=by
       rcases gY.p0 with⟨h0,h1,_⟩|⟨b,off,c,e',sd,fI,fj,eI,hlen,iC,dF⟩;have:loc.vals=[]:=by
        have:=gY.tE;rw[h1]at this;exact List.eq_nil_of_length_eq_zero (by simpa using this)
       rw[gY.len,h1,this];cases loc.a<;>simp[Builtin.firstCells,loadCells,loadCellsFrom];rw[sd,gY.len];exact run_firstCells_some w.drew jw old.length ⟨b,off,none⟩ old.length loc.cap _ Qp (λj v hj=>by rw[lI,Gk];exact H7 b off dF j v hj)
      obtain⟨Qq,c,e1,e2,e3,e4⟩:=oq.new loc.a loc.len loc.cap loc.vals.flatten hf (by rw[Qp,gY.len]) (by rw[gY.len];omega) (by rw[gY.len];exact hr);rw[gY.len,<-List.length_append]at e2;have hcp:0<Qq:=(by rw[List.length_append]at e2;omega);have hw:(w.drew.alloc (.cells c e)).heap=w.heap.push (.cells c e):=rfl;have hlN:(G.new w.heap.size (some 0) []).ls[id]?=some loc:=(by simp only[aQ.new,List.append_nil];exact hl);have ME:sK w G (w.drew.alloc (.cells c e)) ((G.new w.heap.size (some 0) []).at id ⟨some ⟨w.heap.size,0,none⟩,Qq,(old++new).length,jw,v+1,false,rq jw (old++new).length (loc.vals.flatten++news)⟩):=
       (sM hw (some 0) []).trans (MA hlN (by simp;omega) λh=>by rcases h with h|h<;>simp_all<;>omega)
      refine⟨_,_,_,e1,sU hI hB hX hl gi ME (loc':=⟨some ⟨w.heap.size,0,none⟩,Qq,(old++new).length,jw,v+1,false,rq jw (old++new).length (loc.vals.flatten++news)⟩) (by simp only[aQ.at,aQ.new,List.append_nil]) ⟨rfl,rfl,nK (b:=w.heap.size) (off:=0) (c:=c) (e:=e) (xs:=loc.vals.flatten++news) jG (o5 gY.CO iV) ?_ rfl rfl rfl rfl hcp (ry hw) (by simpa using e3) e2 (by simp[aQ.at,aQ.new]) λk x hk=>?_⟩
       (λb p hp=>?_) (λb hb _=>?_) (by rw[hw];simp) rfl rfl (.mu _ _ _ _ ⟨_,_,_,rfl⟩ (by simp only[aQ.at];rw[List.getElem?_set,if_pos rfl,if_pos (List.getElem?_eq_some_iff.1 hlN).1]) (Nat.le_refl _) λ_=>by simp[gY.len]) λb'=>?_⟩
      rw[sS];exact(Gl.mono ME λb' nD=>gG (G:=G) hw (some 0) [] (Gl.held nD)).append (dG.mono ME λb' nD=>by rw[FC]at nD;omega);rw[Nat.zero_add];exact DF hw (e4 k x hk);simp only[aQ.at,aQ.new]at hp;rw[hw,Array.size_push];split at hp;omega;have:=hI.mT b p hp;omega;exact gG (G:=G) hw (some 0) [] hb;have Ke:(⟨some ⟨w.heap.size,0,none⟩,Qq,(old++new).length,jw,v+1,false,rq jw (old++new).length (loc.vals.flatten++news)⟩:lB).jK=some w.heap.size:=by
       unfold lB.jK;rw[if_neg (show ¬Qq=0 by omega)];rfl
      simp only[cx,fG,iJ];rw[Ke,ru b' (old++new) _ (cq.1 jG) (by rw[sS,List.length_append,List.length_append,Gl.1,dG.1]),sS,fK b' _ _ _ _ Gl.1,FC,Xl];simp only[Option.some.injEq];by_cases hb:w.heap.size=b';subst hb;rw[if_pos (Nat.le_refl _)];simp;omega;rw[if_neg hb];omega
     cases ha
    cases ha
   cases ha
  cases ha
theorem Qs{t tx ty e:TypeId}{sz bytes:Nat}{i:TypeInfo}{z:Value}(h:MB P t tx e sz bytes i z){st:ai}{bx:aX}(hI:jn w G st)(hB:j5 w G β bx){cO:Nat->Nat}(hX:∀b,cO b+fR b β bx+cj b G.ls st<=1)
  {s x:AV}{vs vx:Value}(hs:aS w G s vs)(hx:aS w G x vx){wl J:Nat}{st':ai}{fH:aX}{r:eO}(ha:aP wl J (.kh sz bytes) [.val s,.val x] st bx=some (r,st',fH)) :
  ∃v w' G',(Builtin.append_ #[t,tx] ty #[vs,vx]).run P w=.ok v w'/\jo w G β st bx cO w' G' β st' fH r v:=by
 simp only[aP]at ha;split at ha;cases ha;rename_i new ua;by_cases cI:bV sz new=true;obtain⟨news,dG,oq,iV,iz,_⟩:=xu hI hx ua cI h.kind;exact SG hI hB hX hs dG (SF h oq) iV iz ha;unfold xY at ha;rw[if_neg cI]at ha;cases ha
theorem Qt{t tx ty e:TypeId}{sz bytes:Nat}(ht:P.underlying t=some (.slice e))(hk:∃k,P.underlying tx=some (.int k))(eI:cy P e sz=true)(Xj:o4 P e bytes=true){zero:List AV}(hz:oG P e zero=true)(pos:0<sz)(SA:0<bytes)
  {st:ai}{bx:aX}(hI:jn w G st)(hB:j5 w G β bx){cO:Nat->Nat}(hX:∀b,cO b+fR b β bx+cj b G.ls st<=1)
  {s x:AV} {vs vx:Value} (hs:aS w G s vs) (hx:aS w G x vx) {wl J:Nat} {st':ai} {fH:aX} {r:eO} (ha:aP wl J (.sC sz bytes zero) [.val s,.val x] st bx=some (r,st',fH)) :
  ∃v w' G',(Builtin.append_ #[t,tx] ty #[vs,vx]).run P w=.ok v w'/\jo w G β st bx cO w' G' β st' fH r v:=by
 simp only[aP]at ha;split at ha;rename_i n heq;simp only[List.cons.injEq,eO.val.injEq,and_true]at heq;obtain⟨rfl,rfl⟩:=heq;split at ha;rename_i hc;obtain⟨h0,hr,Sx,pC⟩:=hc;obtain⟨i,z,hi,Sr,oo,J1,N5⟩:=lV hz w G;obtain⟨i',qK,Ft,_⟩:=lG eI;rw[hi]at qK;cases qK;have hb:i.bytes=bytes:=by simpa [o4,hi] using Xj
 have Sq:z.cells.size=sz:=by rw[<-Sx,oo.1];simp
 have hrz:=AU (n:=n.toNat) oo Sx pos;rw[<-H6 z.cells n.toNat sz Sq]at hrz;have hR:=MD (ty:=ty) ht hk hi Sr Ft hb Sq pos SA h0 (by simpa [dx] using hr) w (hrz.W9 (cn.FB λr hr=>by rw[List.eq_of_mem_replicate hr];exact N5));cases hx;rw[show n.toNat=(List.replicate n.toNat zero).length by simp]at hR;exact SG hI hB hX hs hrz (by simpa using hR) (λr hr=>by rw[List.eq_of_mem_replicate hr];exact N5) (λr hr=>by rw[List.eq_of_mem_replicate hr];exact(cA zero).2 λc hc=>(J1 c hc).1) ha;cases ha;cases ha
end Ax
namespace Ax
open Go
variable {P:Program}{w w':World}{G G':aQ}{β gw:List mS}{ρ:Operand->Value}{o:Oper}
theorem zy{st:ai}(hI:jn w G st){id b6 i k sz:Nat}{v:Value}{rows:List (List AV)}{r:List AV}(hp:aS w G (.ptr id b6 i k) v)(gi:st[id]?=some (.rows b6 sz rows))(hr:rows[i]?=some r) :
  ∃loc b off c e xs,G.ls[id]?=some loc/\loc.mp=false/\loc.b6=b6/\v9 w G sz rows loc/\v=.pointer (some ⟨b,off+(i*sz+k),none⟩)/\loc.a=some ⟨b,off,none⟩/\0<loc.cap/\loc.jK=some b/\
   w.heap[b]?=some (.cells c e (0,0))/\off+loc.cap*sz<=c.size/\rows.length<=loc.cap/\G.mj b=some 0/\loc.vals[i]?=some xs/\cn w G r xs/\
   ∀(i:Nat) xs (j:Nat) x,loc.vals[i]?=some xs->xs[j]?=some x->w.cell? ⟨b,off+(i*sz+j),none⟩=some x:=by
 obtain⟨loc,hl,BQ,zu,gY⟩:=hI.loc gi;cases hp with
 |ptr _ _ _ _ _ loc' hpp pZ hv he=>
 rw[hl]at pZ;cases pZ;obtain⟨a,sd,rfl⟩:=he zu.symm;rcases gY.p0 with⟨_,tG,_⟩|⟨b,off,c,e',Mu,fI,fj,hle,hlen,iC,dF⟩;subst tG;simp at hr;rw[Mu]at sd;cases sd;have hi:i<loc.vals.length:=by rw[gY.tE];exact(List.getElem?_eq_some_iff.1 hr).1
 have hv:=List.getElem?_eq_getElem hi;exact⟨loc,b,off,c,e',loc.vals[i],hl,BQ,zu,gY,by rw[gY.size],Mu,fI,by unfold lB.jK;rw[if_neg (by omega),Mu];rfl,fj,hle,hlen,iC,hv,gY.tX i r _ hr hv,dF⟩
theorem jN{as vs:List AV}(h:AV.aO as=true)(k:AV.aO vs=true){n:Nat}(hn:n+vs.length<=as.length):AV.aO (ah as n vs)=true:=by
 rw[jM _ _ _ hn];simp only[AV.aO,List.all_eq_true,List.mem_append]at *;intro x hx;rcases hx with (hx|hx)|hx;exact h x (List.mem_of_mem_take hx);exact k x hx;exact h x (List.mem_of_mem_drop hx)
theorem Xp{t:TypeId}{x y:Operand}{n:Nat}(ho:o.op=.store t x y)(hn:cy P t n=true){st:ai}{bx:aX}(hI:jn w G st)(hB:j5 w G β bx){cO:Nat->Nat}(hX:∀b,cO b+fR b β bx+cj b G.ls st<=1)
  {p v:AV}(hp:aS w G p (ρ x))(hv:aS w G v (ρ y))(qv:∀b,fG b v (ρ y)<=cO b){wl J:Nat}{st':ai}{fH:aX}{r:eO}(ha:aP wl J (.store n) [.val p,.val v] st bx=some (r,st',fH)) :
  ∃w' G',(execOp ρ o).run P w=.ok .skip w'/\jo w G β st bx cO w' G' β st' fH r undef:=by
 simp only[aP]at ha;split at ha;rename_i j7;simp only[Bool.and_eq_true,decide_eq_true_eq]at j7;obtain⟨Xq,FD⟩:=j7;split at ha;rename_i rf hw;cases ha;unfold fV at hw;split at hw;rename_i id b6 i k;split at hw;rename_i ve sz rows gi;split at hw;rename_i HV;simp only[Bool.and_eq_true,decide_eq_true_eq]at HV;obtain⟨rfl,_⟩:=HV;split at hw;rename_i aG dj;split at hw;rename_i cI;cases hw;obtain⟨loc,b,off,c,e,xs,hl,BQ,zu,gY,MF,sd,fI,fD,fj,hle,hlen,iC,MG,mo,dF⟩:=zy hI hp gi dj;obtain⟨Fu,N3⟩:=hv.cells;have pE:aG.length=sz:=cq.1 gY.Gg aG (cQ dj);have hxl:xs.length=sz:=by rw[<-mo.1];exact pE
 have hi:i<rows.length:=(List.getElem?_eq_some_iff.1 dj).1;have hyl:(ρ y).cells.toList.length=v.cells.length:=Fu.1.symm;have Sy:=Fu.W9 FD;have MH:off+(i*sz+k)+(ρ y).cells.toList.length<=c.size:=by
  have h1:(i+1)*sz<=loc.cap*sz:=Nat.mul_le_mul_right _ (by omega);rw[Nat.succ_mul]at h1;omega
 have Cs:=gQ (P:=P) b (off+(i*sz+k)) e (ρ y).cells.toList c w fj MH Sy;have FA:=DI (loc':={ loc with vals:=loc.vals.set i (ah xs k (ρ y).cells.toList) }) hl (Nat.le_refl _) λ_=>rfl;have hW:Wr w G (w.setRow b (ah c.toList (off+(i*sz+k)) (ρ y).cells.toList).toArray) ⟨(G.at id { loc with vals:=loc.vals.set i (ah xs k (ρ y).cells.toList) }).ls,λb'=>if b'=b then some 0 else G.mj b'⟩ b:=
  DJ fj MH iC (Nat.zero_le _) (Nat.le_refl _) FA
 have mz:cO b=0/\fL b rows loc.vals=0:=by
  have h1:=hX b;have h2:=nI b G.ls st id loc _ hl gi;simp only[iJ,fD,if_true]at h2;omega
 refine⟨_,⟨(G.at id { loc with vals:=loc.vals.set i (ah xs k (ρ y).cells.toList) }).ls,λb'=>if b'=b then some 0 else G.mj b'⟩,?_,sU hI hB hX hl gi hW.jj rfl ⟨BQ,zu,?_⟩ (hW.mT hI) (λb' _ nD=>hW.jl λe=>nD (by rw[fD,e])) (by simp) rfl rfl trivial λb'=>?_⟩;have eI:(ρ y).cells.size=n:=by rw[<-Xq,Fu.1];simp
 simp only[execOp,ho,MF,Sem.run_bind,Instr.storeAt,Instr.sureAddr,Sem.run_pure,Result.andThen_ok,storeVar,dY hn,eI,ne_eq,not_true_eq_false,if_false,Cs];have af3:cn (w.setRow b (ah c.toList (off+(i*sz+k)) (ρ y).cells.toList).toArray) ⟨(G.at id { loc with vals:=loc.vals.set i (ah xs k (ρ y).cells.toList) }).ls,λb'=>if b'=b then some 0 else G.mj b'⟩ v.cells (ρ y).cells.toList:=
  Fu.mono hW.jj λb' nD=>hW.jl λe=>by
   subst e;rw[N3]at nD;have:=qv b';omega
 have hold:∀(i':Nat) r' Ml,rows[i']?=some r'->loc.vals[i']?=some Ml->cn (w.setRow b (ah c.toList (off+(i*sz+k)) (ρ y).cells.toList).toArray) ⟨(G.at id { loc with vals:=loc.vals.set i (ah xs k (ρ y).cells.toList) }).ls,λb'=>if b'=b then some 0 else G.mj b'⟩ r' Ml:=λi' r' Ml h1 h2=>
  (gY.tX i' r' Ml h1 h2).mono hW.jj λb' nD=>hW.jl λe=>by
   subst e;have:=xq b' rows loc.vals i' r' Ml h1 h2;omega
 refine⟨cq.2 λr' x6=>?_,λr' x6=>?_,by simp[gY.len],gY.size,by simp[gY.tE],λi' r' Ml h1 h2=>?_,.inr ⟨b,off,_,e,sd,fI,setRow_heap w b c _ e (0,0) fj,by rw[List.size_toArray,dL];simpa using hle,by simpa using hlen,by simp,λi' Ml j z h1 h2=>?_⟩⟩;rcases List.mem_or_eq_of_mem_set x6 with h|h;exact cq.1 gY.Gg r' h;rw[h,dL];exact pE;rcases List.mem_or_eq_of_mem_set x6 with h|h;exact gY.CO r' h;rw[h];exact jN (gY.CO aG (cQ dj)) FD cI;simp only at h2;rw[List.getElem?_set]at h1 h2;by_cases MI:i=i';subst MI;rw[if_pos rfl,if_pos hi]at h1;rw[if_pos rfl,if_pos (List.getElem?_eq_some_iff.1 MG).1]at h2;cases h1;cases h2;exact(hold i aG xs dj MG).ah af3 cI;rw[if_neg MI]at h1 h2;exact hold i' r' Ml h1 h2;simp only at h1;rw[sQ fj MH];rw[List.getElem?_set]at h1;by_cases MI:i=i';subst MI;rw[if_pos rfl]at h1;split at h1;cases h1;rw[jk _ _ _ _ (by rw[hyl,hxl,<-pE];exact cI)]at h2;split at h2;rename_i hj;rw[if_pos (by omega),show off+(i*sz+j)-(off+(i*sz+k))=j-k by omega];exact h2;rename_i hj;rw[if_neg (by omega)];exact dF i xs j z MG h2;cases h1;rw[if_neg MI]at h1;have hj:j<sz:=by
  have h3:=(List.getElem?_eq_some_iff.1 h2).1;have h4:=gY.flat.2.2.1 Ml (cQ h1);omega
 have:¬(off+(i*sz+k)<=off+(i'*sz+j)/\off+(i'*sz+j)<off+(i*sz+k)+(ρ y).cells.toList.length):=by
  rcases Nat.lt_or_gt_of_ne MI with bw|bw;have h5:(i+1)*sz<=i'*sz:=Nat.mul_le_mul_right _ bw;rw[Nat.succ_mul]at h5;omega;have h5:(i'+1)*sz<=i*sz:=Nat.mul_le_mul_right _ bw;rw[Nat.succ_mul]at h5;omega
 rw[if_neg this];exact dF i' Ml j z h1 h2;have h1:=tY b' rows loc.vals i aG xs (ah aG k v.cells) (ah xs k (ρ y).cells.toList) dj MG;have h2:=rj b' aG v.cells xs (ρ y).cells.toList k mo.1 Fu.1 cI;have h3:=qv b';rw[N3]at h2;have hb:(if ({ loc with vals:=loc.vals.set i (ah xs k (ρ y).cells.toList) }:lB).jK=some b' then 1 else 0)=(if loc.jK=some b' then 1 else 0):=rfl;simp only[cx,iJ];rw[hb];omega;cases hw;cases hw;cases hw;cases hw;cases hw;cases ha;cases ha
theorem aS.kQ{a:AV}{v:Value}(h:aS w G a v):aS w G a.kQ v:=by
 cases h with
 |lA sz rows a cap oF fI cI iz pC w9 hc hr iC fD=>exact .gone _ rfl|raw sz rows a cap oF fI cI iz pC w9 hc hr iC fD=>exact .gone _ rfl|agg cs vs hl h=>exact .agg cs vs hl h|fF cs vs hl h=>exact .fF cs vs hl h|undef=>exact .undef|gone v h=>exact .gone v h|bool b=>exact .bool b|int k n=>exact .int k n|str l s h=>exact .str l s h|cY=>exact .cY|U=>exact .U|fU=>exact .fU|jb=>exact .jb|kC=>exact .kC|dc sz rows a cap oF fI cI iz pC w9 hc hr=>exact .dc sz rows a cap oF fI cI iz pC w9 hc hr|lU a=>exact .lU a|mu id b6 v loc hp hl hv he=>exact .mu id b6 v loc hp hl hv he|ptr id b6 i k v loc hp hl hv he=>exact .ptr id b6 i k v loc hp hl hv he|qm sz rows i k a cap hl=>exact .qm sz rows i k a cap hl|map id loc b hl hm hb=>exact .map id loc b hl hm hb|fn f first lC vf vc hl hm hn h k=>exact .fn f first lC vf vc hl hm hn h k
theorem SH(b:Nat)(a:AV)(v:Value)(h:a.cL=true):fG b a.kQ v=0:=by
 refine eS b _ _ ?_;cases a<;>simp_all [AV.kQ,AV.b9,AV.cL]
theorem Kf(a:AV)(h:a.cL=true):a.kQ.cL=true:=by
 cases a<;>simp_all [AV.kQ,AV.cL]
theorem cn.kQ{as:List AV}{xs:List Value}(h:cn w G as xs):cn w G (as.map AV.kQ) xs:=by
 refine⟨by simp[h.1],λi c v h1 h2=>?_⟩;simp only[List.getElem?_map,Option.map_eq_some_iff]at h1;obtain⟨c',h1,rfl⟩:=h1;exact(h.2 i c' v h1 h2).kQ
theorem Gn(b:Nat):∀(as:List AV)(xs:List Value),AV.aO as=true->bU b (as.map AV.kQ) xs=0
 |[],xs,_=>by simp[bU]|a::as,[],_=>by simp[bU]|a::as,x::xs,h=>by
  simp only[AV.aO,List.all_cons,Bool.and_eq_true]at h;have:=Gn b as xs h.2;simp only[List.map_cons,bU,SH b a x h.1,this]
theorem FE{as:List AV}(h:AV.aO as=true):AV.aO (as.map AV.kQ)=true:=by
 simp only[AV.aO,List.all_eq_true,List.mem_map]at *;rintro x ⟨y,hy,rfl⟩;exact Kf y (h y hy)
theorem H8{as:List AV}(h:AV.aO as=true)(k n:Nat):AV.aO ((as.drop k).take n)=true:=by
 simp only[AV.aO,List.all_eq_true]at *;intro x hx;exact h x (List.mem_of_mem_drop (List.mem_of_mem_take hx))
theorem uM{α:Type}(xs:List α)(k n:Nat)(h:k+n<=xs.length):ah xs k ((xs.drop k).take n)=xs:=by
 rw[jM _ _ _ (by simp;omega)];have:((xs.drop k).take n).length=n:=by simp;omega
 rw[this,List.append_assoc,<-List.drop_drop,List.take_append_drop,List.take_append_drop]
theorem Kg{r cs:List AV}{xs:List Value}{k n:Nat}(hr:cn w G r xs)(hc:cut r k n=some cs)(iV:AV.aO r=true) :
  cn w G (ah r k (cs.map AV.kQ)) xs/\AV.aO (ah r k (cs.map AV.kQ))=true/\∀b,bU b (ah r k (cs.map AV.kQ)) xs+bU b cs ((xs.drop k).take n)=bU b r xs:=by
 obtain⟨rfl,hle,hlen⟩:=rm hc;have Mi:=H8 iV k n;have SI:k+n<=xs.length:=by rw[<-hr.1];exact hle
 have aak:=uM xs k n SI;refine⟨?_,jN iV (FE Mi) (by rw[List.length_map];omega),λb=>?_⟩;have:=hr.ah ((hr.drop k).take n).kQ (n:=k) (by rw[List.length_map];omega);rw[aak]at this;exact this;have h1:=lH b k r xs hr.1;have h2:=lH b n (r.drop k) (xs.drop k) (by simp[hr.1]);have h3:=Gn b ((r.drop k).take n) ((xs.drop k).take n) Mi;have e:bU b (ah r k (((r.drop k).take n).map AV.kQ)) xs=bU b (ah r k (((r.drop k).take n).map AV.kQ)) (ah xs k ((xs.drop k).take n)):=by rw[aak]
 rw[e,jM _ _ _ (by rw[List.length_map];omega),jM _ _ _ (by simp;omega),fK b _ _ _ _ (by have:=hr.1;simp;omega),fK b _ _ _ _ (by have:=hr.1;simp;omega),h3];have l1:(((r.drop k).take n).map AV.kQ).length=n:=by rw[List.length_map];omega
 have l2:((xs.drop k).take n).length=n:=by simp;omega
 rw[l1,l2];rw[List.drop_drop,List.drop_drop]at h2;omega
theorem gT{α:Type}(l:List α)(i:Nat)(x:α)(h:l[i]?=some x):l.set i x=l:=by
 apply List.ext_getElem?;intro j;rw[List.getElem?_set];split;rename_i e;subst e;split;exact h.symm;rename_i hn;exact absurd (List.getElem?_eq_some_iff.1 h).1 hn
 rfl
theorem MJ{t:TypeId}{x:Operand}{n:Nat}{agg:Bool}(ho:o.op=.load t x)(hn:cy P t n=true)(tF:nG P t=some agg)(mz:agg=false->n=1){st:ai}{bx:aX}(hI:jn w G st)(hB:j5 w G β bx){cO:Nat->Nat}(hX:∀b,cO b+fR b β bx+cj b G.ls st<=1)
  {p:AV}(hp:aS w G p (ρ x)){wl J:Nat}{st':ai}{fH:aX}{r:eO}(ha:aP wl J (.load agg n true) [.val p] st bx=some (r,st',fH)) :
  ∃v,(execOp ρ o).run P w=.ok (.value v) w/\jo w G β st bx cO w G β st' fH r v:=by
 simp only[aP,if_true]at ha;split at ha;rename_i cs DK;split at ha;rename_i rf v hw hv;cases ha;unfold fV at hw;split at hw;rename_i id b6 i k;split at hw;rename_i ve sz rows gi;split at hw;rename_i HV;simp only[Bool.and_eq_true,decide_eq_true_eq]at HV;obtain⟨rfl,_⟩:=HV;split at hw;rename_i aG dj;split at hw;rename_i cI;cases hw;simp only[jD,gi,dj,if_true]at DK;obtain⟨loc,b,off,c,e,xs,hl,BQ,zu,gY,MF,sd,fI,fD,fj,hle,hlen,iC,MG,mo,dF⟩:=zy hI hp gi dj;obtain⟨t1,t2,t3⟩:=Kg mo DK (gY.CO aG (cQ dj));obtain⟨qv,MK,H9⟩:=rm DK;have hxl:xs.length=aG.length:=mo.1.symm;have Oe:((xs.drop k).take n).length=n:=by simp;omega
 have dG:cn w G cs ((xs.drop k).take n):=by rw[qv];exact(mo.drop k).take n
 obtain⟨u,h1,h2,h3⟩:=HW ho hn tF mz MF Oe dG (λj z hz=>by
  rw[List.getElem?_take]at hz;split at hz;rw[List.getElem?_drop]at hz;rw[show off+(i*sz+k)+j=off+(i*sz+(k+j)) by omega];exact dF i xs (k+j) z MG hz;cases hz) hv
 refine⟨u,h1,sU hI hB hX hl gi (sK.refl w G) (gT _ _ _ hl).symm ⟨BQ,zu,?_⟩ hI.mT (λb _ _=>⟨rfl,rfl⟩) (Nat.le_refl _) rfl rfl h2 λb'=>?_⟩;refine⟨cq.2 λr' x6=>?_,λr' x6=>?_,by simp[gY.len],gY.size,by simp[gY.tE],λi' r' Ml h1 h2=>?_,.inr ⟨b,off,c,e,sd,fI,fj,hle,by simpa using hlen,iC,dF⟩⟩;rcases List.mem_or_eq_of_mem_set x6 with h|h;exact cq.1 gY.Gg r' h;rw[h,dL];exact cq.1 gY.Gg aG (cQ dj);rcases List.mem_or_eq_of_mem_set x6 with h|h;exact gY.CO r' h;rw[h];exact t2;rw[List.getElem?_set]at h1;by_cases MI:i=i';subst MI;rw[if_pos rfl]at h1;split at h1;cases h1;rw[MG]at h2;cases h2;exact t1;cases h1;rw[if_neg MI]at h1;exact gY.tX i' r' Ml h1 h2;have h4:=tY b' rows loc.vals i aG xs (ah aG k (cs.map AV.kQ)) xs dj MG;rw[gT _ _ _ MG]at h4;have h5:=t3 b';have h6:=h3 b';simp only[cx,iJ];omega;cases hw;cases hw;cases hw;cases hw;cases hw;cases ha;cases ha
end Ax
namespace Ax
open Go
variable {P:Program}{w w':World}{G G':aQ}{β gw:List mS}{ρ:Operand->Value}{o:Oper}
def eU(nb:Option Nat)(β gw:List mS):Prop:=∀(j:Nat) g,β[j]?=some g->∃g',gw[j]?=some g'/\(nb≠some j->g'.jK=g.jK)
theorem eU.refl(nb:Option Nat)(β:List mS):eU nb β β:=λ_ g h=>⟨g,h,λ_=>rfl⟩
theorem eU.set{nb:Option Nat}{j:Nat}{g g':mS}(hg:β[j]?=some g)(h:nb≠some j->g'.jK=g.jK):eU nb β (β.set j g'):=by
 intro i x hx;by_cases hi:j=i;subst hi;rw[hg]at hx;cases hx;exact⟨g',by rw[List.getElem?_set,if_pos rfl,if_pos (List.getElem?_eq_some_iff.1 hg).1],h⟩;exact⟨x,by rw[List.getElem?_set,if_neg hi];exact hx,λ_=>rfl⟩
theorem DL{st:ai}{bx:aX}{cO:Nat->Nat}(hI:jn w G st)(hB:j5 w G β bx)(hX:∀b,cO b+fR b β bx+cj b G.ls st<=1){j:Nat}{g g':mS}{aG row':List AV}{e:eO}{v:Value}
  (hg:β[j]?=some g)(hr:bx[j]?=some aG)(fD:g'.jK=g.jK)(hs:sK w G w' G')(Sz:G'.ls=G.ls)(ua:zw w' G' row' g')(ht:∀b p,G'.mj b=some p->b<w'.heap.size)
  (Ka:∀b,b<w.heap.size->g.jK≠some b->dZ w G w' G' b) (SD:w.heap.size<=w'.heap.size) (Mj:w'.os=w.os) (x5:w'.output=w.output) (dG:kF w' G' (β.set j g') e v)
  (hc:∀b,cx b e v+bU b row' g'.vals<=cO b+bU b aG g.vals):jo w G β st bx cO w' G' (β.set j g') st (bx.set j row') e v:=by
 have key:∀b,g.jK=some b->1<=(if g.jK=some b then 1 else 0)+bU b aG g.vals:=λb h=>by rw[if_pos h];omega
 refine⟨hs,wo hI hs Sz (λb hb=>Ka b (hI.held hb) λh=>?_) ht,⟨by simp[hB.len],λi r x h1 h2=>?_⟩,dG,λb=>?_,λb hb bw=>Ka b bw λh=>?_,SD,Mj,x5⟩;have h1:=key b h;have h2:=nJ b β bx j g aG hg hr;have:=hX b;omega;rw[List.getElem?_set]at h1 h2;by_cases Cr:j=i;subst Cr;rw[if_pos rfl,if_pos (List.getElem?_eq_some_iff.1 hr).1]at h1;rw[if_pos rfl,if_pos (List.getElem?_eq_some_iff.1 hg).1]at h2;cases h1;cases h2;exact ua;rw[if_neg Cr]at h1 h2;refine(hB.box i r x h1 h2).jj hs λb hb=>Ka b (hB.held (b:=b) (by have:=nJ b β bx i x r h2 h1;omega)) λh=>?_;have h3:=key b h;have h4:=J6 b β bx i j x r g aG (λe=>Cr e.symm) h2 h1 hg hr;have:=hX b;omega;have h1:=zv b β bx j g aG g' row' hg hr;have h2:=hc b;rw[Sz];rw[fD]at h1;omega;have h1:=key b h;have h2:=nJ b β bx j g aG hg hr;omega
theorem Ia{bx:aX}(hB:j5 w G β bx){j k:Nat}{v:Value}{aG:List AV}(hp:kF w G β (.fp j k) v)(hr:bx[j]?=some aG) :
  ∃g b c e,β[j]?=some g/\g.jK=some b/\v=.pointer (some ⟨b,k,none⟩)/\zw w G aG g/\w.heap[b]?=some (.cells c e (0,0))/\aG.length<=c.size/\G.mj b=some 0/\∀(k:Nat) x,g.vals[k]?=some x->w.cell? ⟨b,k,none⟩=some x:=by
 obtain⟨g,b,h1,h2,h3⟩:=hp;have hb:=hB.box j aG g hr h1;rcases hb.p0 with⟨h0,_⟩|⟨b',c,e,h4,h5,h6,h7,h8⟩;rw[h0]at h2;cases h2;rw[h2]at h4;cases h4;exact⟨g,b,c,e,h1,h2,h3,hb,h5,h6,h7,h8⟩
theorem SJ{t:TypeId}{x y:Operand}{j0 n:Nat}(ho:o.op=.store t x y)(hn:cy P t n=true){st:ai}{bx:aX}(hI:jn w G st)(hB:j5 w G β bx){cO:Nat->Nat}(hX:∀b,cO b+fR b β bx+cj b G.ls st<=1)
  {p v:eO}(hp:kF w G β p (ρ x))(hv:kF w G β v (ρ y))(qv:∀b,cx b v (ρ y)<=cO b){wl J:Nat}{st':ai}{fH:aX}{r:eO}(ha:aP wl J (.aj j0 n) [p,v] st bx=some (r,st',fH)) :
  ∃w' G' gw,(execOp ρ o).run P w=.ok .skip w'/\jo w G β st bx cO w' G' gw st' fH r undef/\eU none β gw:=by
 unfold aP at ha;simp only at ha;split at ha;rename_i j k v heq;cases heq;split at ha;rename_i j7;simp only[Bool.and_eq_true,decide_eq_true_eq]at j7;obtain⟨⟨rfl,Xq⟩,FD⟩:=j7;split at ha;rename_i aG hr;split at ha;rename_i cI;cases ha;obtain⟨g,b,c,e,hg,fD,MF,vO,fj,hle,iC,dF⟩:=Ia hB hp hr;obtain⟨Fu,N3⟩:=aS.cells hv;have hyl:(ρ y).cells.toList.length=n:=by rw[<-Xq];exact Fu.1.symm
 have MH:k+(ρ y).cells.toList.length<=c.size:=by omega
 have Cs:=gQ (P:=P) b k e (ρ y).cells.toList c w fj MH (Fu.W9 FD);have hW:Wr w G (w.setRow b (ah c.toList k (ρ y).cells.toList).toArray) ⟨G.ls,λb'=>if b'=b then some 0 else G.mj b'⟩ b:=DJ fj MH iC (Nat.zero_le _) (Nat.le_refl _) (DH G);have mz:cO b=0/\bU b aG g.vals=0:=by
  have h1:=hX b;have h2:=nJ b β bx j0 g aG hg hr;rw[if_pos fD]at h2;omega
 refine⟨_,⟨G.ls,λb'=>if b'=b then some 0 else G.mj b'⟩,β.set j0 ⟨g.jK,ah g.vals k (ρ y).cells.toList⟩,?_,DL hI hB hX hg hr rfl hW.jj rfl ⟨?_,jN vO.CO FD (by rw[Xq];exact cI),.inr ⟨b,_,e,fD,setRow_heap w b c _ e (0,0) fj,?_,by simp,λi z hz=>?_⟩⟩ (hW.mT hI) (λb' _ nD=>hW.jl λe=>nD (by rw[fD,e])) (by simp) rfl rfl trivial λb'=>?_,eU.set hg λ_=>rfl⟩;have eI:(ρ y).cells.size=n:=by simpa using hyl
 simp only[execOp,ho,MF,Sem.run_bind,Instr.storeAt,Instr.sureAddr,Sem.run_pure,Result.andThen_ok,storeVar,dY hn,eI,ne_eq,not_true_eq_false,if_false,Cs];refine(vO.uD.mono hW.jj λb' nD=>hW.jl λe=>?_).ah (Fu.mono hW.jj λb' nD=>hW.jl λe=>?_) (by rw[Xq];exact cI);subst e;omega;subst e;rw[N3]at nD;have:=qv b';simp only[cx]at this;omega;rw[dL,List.size_toArray,dL];simpa using hle;rw[sQ fj MH];simp only at hz;rw[jk _ _ _ _ (by rw[hyl];rw[<-vO.uD.1];exact cI)]at hz;split at hz;rename_i hi;rw[if_pos hi];exact hz;rename_i hi;rw[if_neg hi];exact dF i z hz;have h2:=rj b' aG v.cells g.vals (ρ y).cells.toList k vO.uD.1 Fu.1 (by rw[Xq];exact cI);have h3:=qv b';rw[N3]at h2;simp only[cx]at h3 ⊢;omega;cases ha;cases ha;cases ha;cases ha
theorem Xr{t:TypeId}{x:Operand}{j0 n:Nat}{agg take:Bool}(ho:o.op=.load t x)(hn:cy P t n=true)(tF:nG P t=some agg)(mz:agg=false->n=1){st:ai}{bx:aX}(hI:jn w G st)(hB:j5 w G β bx){cO:Nat->Nat}(hX:∀b,cO b+fR b β bx+cj b G.ls st<=1)
  {p:eO}(hp:kF w G β p (ρ x)){wl J:Nat}{st':ai}{fH:aX}{r:eO}(ha:aP wl J (.aL j0 agg n take) [p] st bx=some (r,st',fH)) :
  ∃v,(execOp ρ o).run P w=.ok (.value v) w/\jo w G β st bx cO w G β st' fH r v:=by
 unfold aP at ha;simp only at ha;split at ha;rename_i j k heq;cases heq;split at ha;rename_i hj;subst hj;split at ha;rename_i aG hr;split at ha;rename_i cs SL;obtain⟨g,b,c,e,hg,fD,MF,vO,fj,hle,iC,dF⟩:=Ia hB hp hr;obtain⟨qv,MK,H9⟩:=rm SL;have hxl:g.vals.length=aG.length:=vO.uD.1.symm;have Oe:((g.vals.drop k).take n).length=n:=by simp;omega
 have dG:cn w G cs ((g.vals.drop k).take n):=by rw[qv];exact(vO.uD.drop k).take n
 have oA:∀(j:Nat) y,((g.vals.drop k).take n)[j]?=some y->w.cell? ⟨b,k+j,none⟩=some y:=λj z hz=>by
  rw[List.getElem?_take]at hz;split at hz;rw[List.getElem?_drop]at hz;exact dF _ z hz;cases hz
 split at ha;split at ha;rename_i v hv;cases ha;obtain⟨u,h1,h2,h3⟩:=HW ho hn tF mz MF Oe dG oA hv;obtain⟨t1,t2,t3⟩:=Kg vO.uD SL vO.CO;have:=DL (e:=.val v) (v:=u) (g':=g) (row':=ah aG k (cs.map AV.kQ)) hI hB hX hg hr rfl (sK.refl w G) rfl ⟨t1,t2,.inr ⟨b,c,e,fD,fj,by rw[dL];exact hle,iC,dF⟩⟩ hI.mT (λb _ _=>⟨rfl,rfl⟩) (Nat.le_refl _) rfl rfl h2 λb'=>by
  have h4:=t3 b';have h5:=h3 b';simp only[cx];omega
 rw[gT _ _ _ hg]at this;exact⟨u,h1,this⟩;cases ha;split at ha;rename_i v hv;cases ha;obtain⟨u,h1,h2,h3⟩:=HW ho hn tF mz MF Oe dG.aa oA hv;refine⟨u,h1,jo.ni hI hB h2 λd=>?_⟩;simp only[cx,h3 d];rw[dy d _ _ (gf cs)];omega;cases ha;cases ha;cases ha;cases ha;cases ha
theorem DM(b:Nat):∀(n:Nat)(rs:List (List AV))(xs:List (List Value)),fL b (rs.take n) (xs.take n)<=fL b rs xs
 |0,rs,xs=>by simp[fL]|n+1,[],xs=>by simp[fL]|n+1,r::rs,[]=>by simp[fL]|n+1,r::rs,x::xs=>by
  have:=DM b n rs xs;simp only[List.take_succ_cons,fL];omega
theorem SM{t e:TypeId}{x hi:Operand}{sz:Nat}(ho:o.op=.slice t x none (some hi) none)(hu:P.underlying t=some (.slice e))(eI:cy P e sz=true){st:ai}{bx:aX}(hI:jn w G st)(hB:j5 w G β bx){cO:Nat->Nat}(hX:∀b,cO b+fR b β bx+cj b G.ls st<=1)
  {a h:AV}(ha:aS w G a (ρ x))(hh:aS w G h (ρ hi)){wl J:Nat}{st':ai}{fH:aX}{r:eO}(Ct:aP wl J (.pW sz) [.val a,.val h] st bx=some (r,st',fH)) :
  ∃v G',(execOp ρ o).run P w=.ok (.value v) w/\jo w G β st bx cO w G' β st' fH r v:=by
 unfold aP at Ct;simp only at Ct;split at Ct
 ·rename_i id b6 n heq;cases heq;split at Ct
  ·rename_i v s rows gi;split at Ct
   ·rename_i hc;simp only[Bool.and_eq_true,decide_eq_true_eq]at hc;obtain⟨⟨⟨⟨rfl,rfl⟩,h0⟩,h1⟩,_⟩:=hc;cases Ct;obtain⟨loc,hl,BQ,zu,gY⟩:=hI.loc gi;generalize J0:ρ x=xv at ha;cases ha with
    |mu _ _ _ loc' hp pZ Cp he=>
    rw[hl]at pZ;cases pZ;have cG:=he (by omega);subst cG;have fI:rows.length<=loc.cap:=by
     rcases gY.p0 with⟨h0,h1,_⟩|⟨b,off,c,e',sd,fI,fj,eI,hlen,iC,dF⟩;rw[h1];simp;exact hlen
    have hhv:=hh.fO;have SN:(execOp ρ o).run P w=.ok (.value (.slice loc.a n.toNat loc.cap)) w:=by
     simp only[execOp,ho,J0,Sem.run_bind];have hb:(Instr.sliceBounds true loc.len loc.cap none (some (ρ hi)) none).run P w=.ok (0,n.toNat,loc.cap) w:=by
      have:=kG (P:=P) (vZ:=true) (len:=loc.len) (cap:=loc.cap) (lo:=none) (hi:=some hi) (ρ:=ρ) (a:=0) (b:=n) (.inl ⟨rfl,rfl⟩) (.inr ⟨hi,rfl,hhv⟩) (by omega) h0 (by omega) w;simpa using this
     simp only[Instr.sliceAt,Sem.run_bind,run_underlying hu,Result.andThen_ok,Instr.slice,Option.map_none,Option.map_some,hb,dY eI,Sem.run_pure];rcases gY.p0 with⟨h0,h1,_⟩|⟨b,off,c,e',sd,fI,fj,eI,hlen,iC,dF⟩;simp[h0];simp[sd,lI,show ¬loc.cap=0 by omega]
    have ME:sK w G w (G.at id ⟨loc.a,loc.cap,n.toNat,loc.sz,v+1,false,loc.vals.take n.toNat⟩):=MA hl (by simp;omega) λh=>by rcases h with h|h<;>simp_all<;>omega
    refine⟨_,_,SN,sU (loc':=⟨loc.a,loc.cap,n.toNat,loc.sz,v+1,false,loc.vals.take n.toNat⟩) hI hB hX hl gi ME rfl ⟨rfl,rfl,?_⟩ hI.mT (λb _ _=>⟨rfl,rfl⟩) (Nat.le_refl _) rfl rfl (.mu _ _ _ _ ⟨_,_,_,rfl⟩ (by simp only[aQ.at];rw[List.getElem?_set,if_pos rfl,if_pos (List.getElem?_eq_some_iff.1 hl).1]) (Nat.le_refl _) λ_=>rfl) λb=>?_⟩;have hold:=p6.jj (w':=w) (show p6 w G (.rows v s rows) loc from⟨BQ,zu,gY⟩) ME λb _=>⟨rfl,rfl⟩;obtain⟨_,_,h3⟩:=hold;refine⟨cq.2 λr hr=>cq.1 h3.Gg r (List.mem_of_mem_take hr),λr hr=>h3.CO r (List.mem_of_mem_take hr),by simp;omega,h3.size,by simp[h3.tE],λi r xs e1 e2=>?_,?_⟩;simp only at e2;rw[List.getElem?_take]at e1 e2;split at e1;rename_i bw;rw[if_pos bw]at e2;exact h3.tX i r xs e1 e2;cases e1;rcases h3.p0 with⟨h0,h1,h2⟩|⟨b,off,c,e',sd,fI,fj,eI,hlen,iC,dF⟩;exact .inl ⟨h0,by rw[h1];simp,h2⟩;refine .inr ⟨b,off,c,e',sd,fI,fj,eI,by simp;omega,iC,λi xs j z e1 e2=>?_⟩;simp only at e1;rw[List.getElem?_take]at e1;split at e1;exact dF i xs j z e1 e2;cases e1;have h2:=DM b n.toNat rows loc.vals;simp only[cx,fG];show 0+((if loc.jK=some b then 1 else 0)+fL b (rows.take n.toNat) (loc.vals.take n.toNat))<=cO b+((if loc.jK=some b then 1 else 0)+fL b rows loc.vals)+_;omega
   cases Ct
  cases Ct
 cases Ct
end Ax
namespace Ax
open Go
variable {P:Program}{w w':World}{G G':aQ}{β gw:List mS}{ρ:Operand->Value}{o:Oper}
theorem DN{r:Nat}{es:Array MapEntry}{clock:Nat}{ob:Obj}(h:w.heap[r]?=some (.map es clock)):(setObj r ob).run P w=.ok () { w with heap:=w.heap.setIfInBounds r ob }:=by
 simp[setObj,Sem.run,h]
theorem DO{t:TypeId}{kk:SK}(ht:pD P t kk=true){k v:AV}{x y:Value}(hk:aS w G k x)(hv:aS w G v y)(hkn:k.b9=true)(Xq:v.b9=true):∀(es r7:List (AV×AV))(fs:List MapEntry),yM w G es fs->Fx kk k v es=some r7->
  (∃i e u,sE kk k es=some (some u)/\fs[i]?=some e/\(∀(q:Option (Nat×Value)),(Instr.findKey t x fs).run P w=.ok q w->∃val,q=some (i,val))/\Fp kk k (es[i]?.map (·.1) |>.getD .undef)=some true/\(∃a,es[i]?=some a/\aS w G a.1 e.key)/\yM w G r7 (fs.set i { e with key:=x,val:=y }))\/
  (sE kk k es=some none/\∀born,yM w G r7 (fs++[{ key:=x,val:=y,born:=born }])):=by
 have hu:∃d,P.underlying t=some d:=by
  unfold pD at ht;cases kk<;>simp only at ht<;>split at ht<;>(try cases ht)<;>exact⟨_,by assumption⟩
 obtain⟨d,hu⟩:=hu;intro es;induction es with
 |nil=>
  intro r7 fs hM h;simp only[Fx,Option.some.injEq]at h;subst h;have h0:fs=[]:=List.eq_nil_of_length_eq_zero (by simpa using hM.1);subst h0;refine .inr ⟨rfl,λborn=>⟨rfl,λi a b e h1 h2=>?_⟩⟩;cases i with
  |zero=>simp at h1 h2;obtain⟨rfl,rfl⟩:=h1;subst h2;exact⟨hk,hv,Xq,hkn⟩|succ i=>simp at h1
 |cons c es ih=>
  intro r7 fs hM h;obtain⟨a,u⟩:=c;cases fs with
  |nil=>have:=hM.1;simp at this|cons f fs=>
   obtain⟨g1,g2,g3,g4⟩:=hM.2 0 a u f rfl rfl;simp only[Fx]at h;split at h;rename_i he;cases h;refine .inl ⟨0,f,u,by simp[sE,he],rfl,λq hq=>?_,by simpa using he,⟨(a,u),rfl,g1⟩,?_⟩;have hs:=uJ ht hu he hk g1;have:(Instr.findKey t x (f::fs)).run P w=.ok (some (0,f.val)) w:=by simp[Instr.findKey,run_underlying hu,Instr.findNow,hs]
   rw[this]at hq;cases hq;exact⟨_,rfl⟩;refine⟨by simpa using hM.1,λi p q e h1 h2=>?_⟩;cases i with
   |zero=>simp at h1 h2;obtain⟨rfl,rfl⟩:=h1;subst h2;exact⟨hk,hv,Xq,hkn⟩|succ i=>exact hM.2 (i+1) p q e (by simpa using h1) (by simpa using h2)
   rename_i he;split at h;rename_i r' x6;cases h;have hs:=uJ ht hu he hk g1;have aal:∀es2 fs2,yM w G es2 fs2->yM w G ((a,u)::es2) (f::fs2):=λes2 fs2 h2=>⟨by simp[h2.1],λi p q e e1 e2=>by
    cases i with
    |zero=>simp at e1 e2;obtain⟨rfl,rfl⟩:=e1;subst e2;exact⟨g1,g2,g3,g4⟩|succ i=>exact h2.2 i p q e (by simpa using e1) (by simpa using e2)⟩
   rcases ih r' fs hM.tail x6 with⟨i,e,u',f1,f2,f3,f4,f5,f6⟩|⟨f1,f2⟩;refine .inl ⟨i+1,e,u',by simp[sE,he,f1],by simpa using f2,λq hq=>?_,by simpa using f4,by simpa using f5,by simpa using aal _ _ f6⟩;obtain⟨q0,e1,e2⟩:=uK ht hu hk es fs 0 _ hM.tail f1;obtain⟨q1,e3,e4⟩:=uK ht hu hk es fs 1 _ hM.tail f1;obtain⟨j0,e0,a1,_⟩:=e2;obtain⟨j1,e0',b1,b2,_⟩:=e4;have h0:(Instr.findKey t x fs).run P w=.ok q0 w:=(by simp[Instr.findKey,run_underlying hu,e1]);obtain⟨val,cG⟩:=f3 q0 h0;have:(Instr.findKey t x (f::fs)).run P w=.ok q1 w:=by simp[Instr.findKey,run_underlying hu,Instr.findNow,hs,e3]
   rw[this]at hq;cases hq;have key:∀(fs:List MapEntry) (s:Nat) (q:Option (Nat×Value)),Instr.findNow d x fs s=some q->Instr.findNow d x fs (s+1)=some (q.map λz=>(z.1+1,z.2)):=by
    intro fs;induction fs with
    |nil=>intro s q h;simp[Instr.findNow]at h ⊢;subst h;rfl|cons f fs ih=>
     intro s q h;simp only[Instr.findNow]at h ⊢;cases hsn:Instr.sameNow d x f.key with
     |none=>rw[hsn]at h;simp at h|some b=>
      rw[hsn]at h;cases b with
      |true=>simp at h ⊢;subst h;rfl|false=>simp at h ⊢;exact ih _ _ h
   have h3:=key fs 0 q0 e1;rw[Nat.zero_add]at h3;rw[e3]at h3;cases h3;rw[cG];exact⟨val,rfl⟩;exact .inr ⟨by simp[sE,he,f1],λborn=>aal _ _ (f2 born)⟩;cases h;cases h
theorem Kh{kk:SK}{a b:AV}{x y:Value}(h:Fp kk a b=some true)(ha:aS w G a x)(hb:aS w G b y)(n:Nat):Instr.sameBits n y x=true:=by
 unfold Fp at h;split at h;simp only[Option.some.injEq,beq_iff_eq]at h;rw[ha.jL,hb.jL,h];simp[Instr.sameBits];split at h;rename_i j8;subst j8;simp only[Option.some.injEq,beq_iff_eq]at h;rw[ha.fO,hb.fO,h];simp[Instr.sameBits];cases h;simp only[Option.some.injEq,beq_iff_eq]at h;obtain⟨s,rfl,rfl⟩:=ha.mN;obtain⟨s',rfl,h2⟩:=hb.mN;have:s=s':=ByteArray.ext (Array.toList_inj.1 (h.trans h2.symm));subst this;simp only[Instr.sameBits];rw[beq_toListBytes];exact beq_self_eq_true _;cases h
theorem BX{t kt et:TypeId}{m k x:Operand}(ho:o.op=.mapUpdate t m k x\/o.op=.insert t m k x)(hu:P.underlying t=some (.map kt et)){kk:SK}(ht:pD P kt kk=true){st:ai}{bx:aX}(hI:jn w G st)(hB:j5 w G β bx){cO:Nat->Nat}(hX:∀b,cO b+fR b β bx+cj b G.ls st<=1)
  {am ak av:AV}(hm:aS w G am (ρ m))(hk:aS w G ak (ρ k))(hv:aS w G av (ρ x)){wl J:Nat}{st':ai}{fH:aX}{r:eO}(ha:aP wl J (.mapUpdate kk) [.val am,.val ak,.val av] st bx=some (r,st',fH)) :
  ∃w' G',(execOp ρ o).run P w=.ok .skip w'/\jo w G β st bx cO w' G' β st' fH r undef:=by
 unfold aP at ha;simp only at ha;split at ha;rename_i id k0 v0 heq;cases heq;split at ha;rename_i es gi;split at ha;rename_i j7;simp only[Bool.and_eq_true]at j7;split at ha;rename_i r7 Qu;cases ha;have hkn:ak.b9=true:=by
  have:=j7.1;unfold Gb at this;split at this<;>first|rfl|cases this
 obtain⟨loc,hl,So⟩:=hI.loc gi;obtain⟨g1,g2,b,fs,clock,g3,g4,g5,g6,g7⟩:=So;have hmv:ρ m=.map (some b):=by
  generalize ρ m=mv at hm;cases hm with
  |map _ loc' bk pZ BQ nD=>rw[hl]at pZ;cases pZ;rw[nD]at g3;cases g3;rfl
 have fD:loc.jK=some b:=by unfold lB.jK;rw[if_neg (by omega),g3];rfl
 have hM:yM w G es fs.toList:=⟨by simpa using g6,λi a v e e1 e2=>g7 i a v e e1 (by simpa using e2)⟩;have Su:(getObj b).run P w=.ok (.map fs clock) w:=by simp[getObj,Sem.run,g4]
 have hck:=run_checkKey (w:=w) ht false 9999 (ρ k);have mM:∀(fs':Array MapEntry) (Ib:Nat),yM w G r7 fs'.toList->
   jo w G β st bx cO { w with heap:=w.heap.setIfInBounds b (.map fs' Ib) } ⟨(G.at id loc).ls,λb'=>if b'=b then some 0 else G.mj b'⟩ β (st.set id (.map r7)) bx .none undef:=by
  intro fs' Ib hM';have bw:b<w.heap.size:=(Array.getElem?_eq_some_iff.1 g4).1;have hW:Wr w G { w with heap:=w.heap.setIfInBounds b (.map fs' Ib) } ⟨(G.at id loc).ls,λb'=>if b'=b then some 0 else G.mj b'⟩ b:=
   ⟨by simp,λb' nD=>by simp only[Array.getElem?_setIfInBounds];rw[if_neg λe=>nD e.symm],λb' nD=>by simp[nD],⟨0,0,g5,by simp,Nat.le_refl _,λo ho=>by omega⟩,DI hl (Nat.le_refl _) λ_=>rfl⟩
  refine sU hI hB hX hl gi hW.jj rfl ⟨g1,g2,b,fs',Ib,g3,?_,by simp,by simpa using hM'.1,λi a v e e1 e2=>?_⟩ (hW.mT hI) (λb' _ nD=>hW.jl λe=>nD (by rw[fD,e])) (by simp) rfl rfl trivial λb'=>by simp only[cx,iJ];omega
  simp only[Array.getElem?_setIfInBounds];rw[if_pos trivial,if_pos bw];obtain⟨h1,h2,h3,h4⟩:=hM'.2 i a v e e1 (by simpa using e2);exact⟨h1.jj hW.jj λb hb=>by rw[eS b a _ h4]at hb;omega,h2.jj hW.jj λb hb=>by rw[eS b v _ h3]at hb;omega,h3,h4⟩
 have head:∀(w':World),(Instr.mapUpdate t (.map (some b)) (ρ k) (ρ x)).run P w=.ok () w'->(execOp ρ o).run P w=.ok .skip w':=by
  intro w' h;rcases ho with ho|ho<;>simp only[execOp,ho,hmv,Sem.run_bind,h,Result.andThen_ok,Sem.run_pure]
 rcases DO ht hk hv.aa hkn (uI av) es r7 fs.toList hM Qu with⟨i,e,u,f1,f2,f3,f4,⟨a,f5,f6⟩,f7⟩|⟨f1,f2⟩;obtain⟨q,e1,e2⟩:=run_findKey ht hk hM f1 w;obtain⟨val,rfl⟩:=f3 q e1;have hfi:fs[i]?=some e:=by simpa using f2
 refine⟨_,_,head _ ?_,mM (fs.modify i λe=>{ e with key:=ρ k,val:=ρ x }) clock ?_⟩;rw[f5]at f4;have hsb:=Kh f4 hk f6 10000;simp only[Instr.mapUpdate,Sem.run_bind,run_underlying hu,Result.andThen_ok,Su,hck,e1,hfi,Option.map_some,Option.getD_some,Instr.keyThatStays,hsb,if_true,Sem.run_pure,DN g4];have:(fs.modify i λe=>{ e with key:=ρ k,val:=ρ x }).toList=fs.toList.set i { e with key:=ρ k,val:=ρ x }:=by
  rw[Array.toList_modify];apply List.ext_getElem?;intro j;rw[List.getElem?_modify,List.getElem?_set];by_cases Cr:i=j;subst Cr;simp[(Array.getElem?_eq_some_iff.1 hfi).1,(Array.getElem?_eq_some_iff.1 hfi).2];simp[Cr]
 rw[this];exact f7;obtain⟨q,e1,e2⟩:=run_findKey ht hk hM f1 w;simp only at e2;subst e2;refine⟨_,_,head _ ?_,mM (fs.push { key:=ρ k,val:=ρ x,born:=clock }) (clock+1) (by rw[Array.toList_push];exact f2 clock)⟩;simp only[Instr.mapUpdate,Sem.run_bind,run_underlying hu,Result.andThen_ok,Su,hck,e1,DN g4];cases ha;cases ha;cases ha;cases ha
end Ax
namespace Ax
open Go
variable {P:Program}{w w':World}{G G':aQ}{β gw:List mS}{ρ:Operand->Value}{o:Oper}
structure JQ (w:World)(G:aQ)(st:ai)(G':aQ)(st':ai):Prop where
 jj:sK w G w G'
 inv:jn w G' st'
 fG:∀b,cj b G'.ls st'<=cj b G.ls st
 wj:∀b,cj b G.ls st=0->G'.mj b=G.mj b
theorem JQ.refl{st:ai}(hI:jn w G st):JQ w G st G st:=⟨sK.refl w G,hI,λ_=>Nat.le_refl _,λ_ _=>rfl⟩
theorem JQ.trans{G1 G2:aQ}{st rf qg:ai}(h:JQ w G st G1 rf)(k:JQ w G1 rf G2 qg):JQ w G st G2 qg:=
 ⟨h.jj.trans k.jj,k.inv,λb=>Nat.le_trans (k.fG b) (h.fG b),λb hb=>(k.wj b (by have:=h.fG b;omega)).trans (h.wj b hb)⟩
mutual
theorem wv:∀a:AV,a.au=true->a.aa.au=true
 |.lA _ _,_=>by simp[AV.aa,AV.au]|.raw _ _,_=>by simp[AV.aa,AV.au]|.agg cs,h=>by simp only[AV.aa,AV.au]at *;exact o6 cs h|.fF cs,h=>by simp only[AV.aa,AV.au]at *;exact o6 cs h|.undef,h|.gone,h|.bool _,h|.int _ _,h|.str _,h|.cY,h|.U,h|.fU,h|.jb,h|.kC,h|.dc _ _,h|.lU,h|.mu _ _,h|.ptr _ _ _ _,h|.qm _ _ _ _,h|.map _,h|.fn _ _ _,h=>by simpa [AV.aa] using h
theorem o6:∀cs:List AV,AV.af cs=true->AV.af (AV.cJ cs)=true
 |[],_=>rfl|c::cs,h=>by
  simp only[AV.af,Bool.and_eq_true]at h;simp only[AV.cJ,AV.af,wv c h.1,o6 cs h.2,Bool.and_self]
end
theorem aS.AX{a:AV}{v:Value}(h:aS w G a v)(hs:sK w G w' G')(hn:a.b9=true):aS w' G' a v:=h.jj hs λb hb=>by rw[eS b a v hn]at hb;omega
def kY(sz b6:Nat):lB:=⟨some ⟨0,0,none⟩,0,0,sz,b6+1,false,[]⟩
theorem Ic(sz b6:Nat):p6 w G (.rows (b6+1) sz []) (kY sz b6):=
 ⟨rfl,rfl,by simp[bV],by simp,rfl,rfl,rfl,λi r xs h=>by simp at h,.inl ⟨rfl,rfl,rfl⟩⟩
theorem Gp{st:ai}(hI:jn w G st){id b6 sz:Nat}{rows:List (List AV)}{loc:lB}(gi:st[id]?=some (.rows b6 sz rows))(hl:G.ls[id]?=some loc)(BQ:loc.mp=false)(zu:loc.b6=b6) :
  JQ w G st (G.at id (kY sz b6)) (st.set id (.rows (b6+1) sz []))/\∀b,cj b (G.at id (kY sz b6)).ls (st.set id (.rows (b6+1) sz []))+iJ b loc (.rows b6 sz rows)=cj b G.ls st:=by
 have hs:sK w G w (G.at id (kY sz b6)):=MA hl (by simp only[kY];omega) λh=>by
  rcases h with h|h;simp only[kY]at h;omega;rw[BQ]at h;cases h
 have hc:∀b,cj b (G.at id (kY sz b6)).ls (st.set id (.rows (b6+1) sz []))+iJ b loc (.rows b6 sz rows)=cj b G.ls st:=λb=>by
  have:=wh b G.ls st id loc _ (kY sz b6) (.rows (b6+1) sz []) hl gi;have h0:iJ b (kY sz b6) (.rows (b6+1) sz [])=0:=by simp[iJ,kY,lB.jK,fL]
  rw[h0]at this;exact this
 exact⟨⟨hs,CS hI hs rfl (λ_ _ _ b _ _ _ _=>⟨rfl,rfl⟩) (Ic sz b6) hI.mT,λb=>by have:=hc b;omega,λ_ _=>rfl⟩,hc⟩
def aQ.Cu(G:aQ)(b:Nat):aQ:=⟨G.ls,λb'=>if b'=b then none else G.mj b'⟩
theorem Ki{st:ai}(hI:jn w G st){b:Nat}(hb:G.mj b=some 0)(h0:cj b G.ls st=0):sK w G w (G.Cu b)/\jn w (G.Cu b) st:=by
 have hs:sK w G w (G.Cu b):=⟨λb' o hi=>⟨rfl,hi.1,λp hp=>by
  simp only[aQ.Cu]at hp;split at hp;cases hp;exact hi.2 p hp⟩,DH G⟩
 refine⟨hs,wo hI hs rfl (λb' nD=>⟨?_,rfl⟩) λb' p hp=>?_⟩;simp only[aQ.Cu];rw[if_neg];intro e;subst e;omega;simp only[aQ.Cu]at hp;split at hp;cases hp;exact hI.mT b' p hp
theorem Kj{sz b off cap:Nat}{rows:List (List AV)}{vals:List (List Value)}(cI:bV sz rows=true)(iV:∀r∈rows,AV.aO r=true)(iz:∀r∈rows,AV.dN r=true)(pC:∀r∈rows,AV.af r=true)
  (hlen:vals.length=rows.length)(af5:∀(i:Nat) r xs,rows[i]?=some r->vals[i]?=some xs->cn w G r xs)(fI:rows.length<=cap)(hb:b<w.heap.size)(ht:G.mj b=none)
  (dF:∀(i:Nat) xs (j:Nat) x,vals[i]?=some xs->xs[j]?=some x->w.cell? ⟨b,off+(i*sz+j),none⟩=some x):aS w G (.dc sz rows) (.slice (some ⟨b,off,none⟩) rows.length cap):=by
 have key:∀(i:Nat) r (j:Nat) c,rows[i]?=some r->r[j]?=some c->∃v,w.cell? ⟨b,off+(i*sz+j),none⟩=some v/\aS w G c v:=by
  intro i r j c h1 h2;have hi:i<vals.length:=by rw[hlen];exact(List.getElem?_eq_some_iff.1 h1).1
  have hv:=List.getElem?_eq_getElem hi;obtain⟨e1,e2⟩:=af5 i r _ h1 hv;have hj:j<vals[i].length:=by rw[<-e1];exact(List.getElem?_eq_some_iff.1 h2).1
  exact⟨_,dF i _ j _ hv (List.getElem?_eq_getElem hj),e2 j c _ h2 (List.getElem?_eq_getElem hj)⟩
 refine .dc sz rows ⟨b,off,none⟩ cap rfl fI cI iz pC iV (λi r j c h1 h2=>⟨⟨hb,λp hp=>by simp only at hp;rw[ht]at hp;cases hp⟩,?_⟩) λi r j c v h1 h2 h3=>?_;obtain⟨v,h,_⟩:=key i r j c h1 h2;exact⟨v,h⟩;obtain⟨v',h,h'⟩:=key i r j c h1 h2;rw[h]at h3;cases h3;exact h'
theorem ML{wl:Nat}{st st':ai}{a a':AV}{v:Value}(hI:jn w G st)(hX:∀b,cj b G.ls st<=1)(h:aS w G a v)(hf:qo wl a st=some (a',st')) :
  ∃G',JQ w G st G' st'/\aS w G' a' v/\a'.b9=true/\a'.au=true/\a'.cL=true:=by
 unfold qo at hf;split at hf
 ·rename_i id b6;split at hf
  ·rename_i v0 sz rows gi;split at hf
   ·rename_i hc;simp only[Bool.and_eq_true,decide_eq_true_eq,Bool.not_eq_true',List.all_eq_true]at hc;obtain⟨⟨⟨rfl,pC⟩,iR⟩,_⟩:=hc;cases hf;obtain⟨loc,hl,BQ,zu,gY⟩:=hI.loc gi;cases h with
    |mu _ _ _ loc' hp pZ Cp he=>
    rw[hl]at pZ;cases pZ;have cG:=he (by omega);subst cG;rcases gY.p0 with⟨_,tG,_⟩|⟨b,off,c,e',sd,fI,fj,eI,hlen,iC,dF⟩;subst tG;simp at iR;obtain⟨f1,f2⟩:=Gp hI gi hl BQ zu;have fD:loc.jK=some b:=(by unfold lB.jK;rw[if_neg (by omega),sd];rfl);have h0:cj b (G.at id (kY sz v0)).ls (st.set id (.rows (v0+1) sz []))=0:=by
     have h1:=f2 b;have h2:=hX b;simp only[iJ,fD,if_true]at h1;omega
    obtain⟨g1,g2⟩:=Ki f1.inv (b:=b) (by exact iC) h0;refine⟨(G.at id (kY sz v0)).Cu b,⟨f1.jj.trans g1,g2,f1.fG,λb' nD=>?_⟩,?_,by simp[AV.b9],by simp[AV.au],by simp[AV.cL]⟩;simp only[aQ.Cu,aQ.at];rw[if_neg];intro e;subst e;have h1:=f2 b';simp only[iJ,fD,if_true]at h1;omega;rw[sd,gY.len,show rows.length=(rows.map AV.cJ).length by simp];refine Kj (vals:=loc.vals) (cq.2 λr hr=>?_) (λr hr=>?_) (λr hr=>?_) (λr hr=>?_) (by simpa using gY.tE) (λi r xs h1 h2=>?_) (by simpa using hlen) (Array.getElem?_eq_some_iff.1 fj).1 (by simp[aQ.Cu]) dF;obtain⟨r',x6,rfl⟩:=List.mem_map.1 hr;rw[nF];exact cq.1 gY.Gg r' x6;obtain⟨r',x6,rfl⟩:=List.mem_map.1 hr;rw[rz];exact gY.CO r' x6;obtain⟨r',x6,rfl⟩:=List.mem_map.1 hr;exact gf r';obtain⟨r',x6,rfl⟩:=List.mem_map.1 hr;exact o6 r' (pC r' x6);simp only[List.getElem?_map,Option.map_eq_some_iff]at h1;obtain⟨r',h1,rfl⟩:=h1;refine(gY.tX i r' xs h1 h2).aa.mono (f1.jj.trans g1) λb' nD=>?_;rw[dy b' _ _ (gf r')]at nD;omega
   cases hf
  cases hf
 split at hf;rename_i hc;simp only[Bool.and_eq_true]at hc;cases hf;exact⟨G,JQ.refl hI,h.aa,uI a,wv a hc.1,by rw[BW];exact hc.2⟩;cases hf
theorem DP{wl:Nat}:∀{l l':List AV}{xs:List Value}{G:aQ}{st st':ai},jn w G st->(∀b,bU b l xs+cj b G.ls st<=1)->cn w G l xs->ki wl l st=some (l',st')->
  ∃G',JQ w G st G' st'/\cn w G' l' xs/\AV.dN l'=true/\AV.af l'=true/\AV.aO l'=true
 |[],l',xs,G,st,st',hI,hX,h,hf=>by
  simp only[ki,Option.some.injEq,Prod.mk.injEq]at hf;obtain⟨rfl,rfl⟩:=hf;exact⟨G,JQ.refl hI,h,rfl,rfl,rfl⟩
 |a::l,l',xs,G,st,st',hI,hX,h,hf=>by
  simp only[ki]at hf;split at hf
  ·rename_i a1 rf h1;split at hf
   ·rename_i l2 qg h2;cases hf;cases xs with
    |nil=>have:=h.1;simp at this|cons x xs=>
    obtain⟨G1,f1,f2,f3,f4,f5⟩:=ML hI (λb=>by have:=hX b;omega) (h.2 0 a x rfl rfl) h1;have SO:cn w G l xs:=⟨by simpa using h.1,λi c v e1 e2=>h.2 (i+1) c v (by simpa using e1) (by simpa using e2)⟩;have hX1:∀b,bU b l xs+cj b G1.ls rf<=1:=λb=>by
     have e1:=hX b;have e2:=f1.fG b;simp only[bU]at e1;omega
    obtain⟨G2,g1,g2,g3,g4,g5⟩:=DP f1.inv hX1 (SO.mono f1.jj λb hb=>⟨f1.wj b (by have:=hX b;simp only[bU]at this;omega),rfl⟩) h2;refine⟨G2,f1.trans g1,⟨by simp[g2.1],λi c v e1 e2=>?_⟩,by simp[AV.dN,f3,g3],by simp[AV.af,f4,g4],?_⟩;cases i with
    |zero=>simp at e1 e2;subst e1;subst e2;exact f2.AX g1.jj f3|succ i=>exact g2.2 i c v (by simpa using e1) (by simpa using e2)
    simp only[AV.aO,List.all_cons,Bool.and_eq_true]at g5 ⊢;exact⟨f5,g5⟩
   cases hf
  cases hf
theorem wz{wl:Nat}:∀{l l':List AV}{st st':ai},ki wl l st=some (l',st')->l'.length=l.length
 |[],l',st,st',hf=>by simp only[ki,Option.some.injEq,Prod.mk.injEq]at hf;obtain⟨rfl,_⟩:=hf;rfl|a::l,l',st,st',hf=>by
  simp only[ki]at hf;split at hf;split at hf;rename_i h2;cases hf;simp[wz h2];cases hf;cases hf
theorem BY{wl:Nat}:∀{l l':List (List AV)}{xs:List (List Value)}{G:aQ}{st st':ai},jn w G st->(∀b,fL b l xs+cj b G.ls st<=1)->l.length=xs.length->(∀(i:Nat) r x,l[i]?=some r->xs[i]?=some x->cn w G r x)->kE wl l st=some (l',st')->
  ∃G',JQ w G st G' st'/\l'.length=l.length/\(∀(i:Nat) r x,l'[i]?=some r->xs[i]?=some x->cn w G' r x)/\(∀(i:Nat) r r',l[i]?=some r->l'[i]?=some r'->r'.length=r.length)/\(∀r∈l',AV.dN r=true)/\(∀r∈l',AV.af r=true)/\(∀r∈l',AV.aO r=true)
 |[],l',xs,G,st,st',hI,hX,hl,h,hf=>by
  simp only[kE,Option.some.injEq,Prod.mk.injEq]at hf;obtain⟨rfl,rfl⟩:=hf;exact⟨G,JQ.refl hI,rfl,h,λi r r' e=>by simp at e,by simp,by simp,by simp⟩
 |a::l,l',xs,G,st,st',hI,hX,hl,h,hf=>by
  simp only[kE]at hf;split at hf
  ·rename_i a1 rf h1;split at hf
   ·rename_i l2 qg h2;cases hf;cases xs with
    |nil=>simp at hl|cons x xs=>
    obtain⟨G1,f1,f2,f3,f4,f5⟩:=DP hI (λb=>by have:=hX b;simp only[fL]at this;omega) (h 0 a x rfl rfl) h1;have hX1:∀b,fL b l xs+cj b G1.ls rf<=1:=λb=>by
     have e1:=hX b;have e2:=f1.fG b;simp only[fL]at e1;omega
    obtain⟨G2,g1,g2,g3,g4,g5,g6,g7⟩:=BY f1.inv hX1 (by simpa using hl) (λi r y e1 e2=>(h (i+1) r y (by simpa using e1) (by simpa using e2)).mono f1.jj λb hb=>⟨f1.wj b (by
     have e3:=hX b;have e4:=xq b l xs i r y e1 e2;simp only[fL]at e3;omega),rfl⟩) h2
    refine⟨G2,f1.trans g1,by simp[g2],λi r y e1 e2=>?_,λi r r' e1 e2=>?_,λr hr=>?_,λr hr=>?_,λr hr=>?_⟩;cases i with
    |zero=>simp at e1 e2;subst e1;subst e2;exact f2.mono g1.jj λb hb=>by rw[dy b _ _ f3]at hb;omega|succ i=>exact g3 i r y (by simpa using e1) (by simpa using e2)
    cases i with
    |zero=>simp at e1 e2;subst e1;subst e2;exact wz h1|succ i=>exact g4 i r r' (by simpa using e1) (by simpa using e2)
    rcases List.mem_cons.1 hr with rfl|hr;exact f3;exact g5 r hr;rcases List.mem_cons.1 hr with rfl|hr;exact f4;exact g6 r hr;rcases List.mem_cons.1 hr with rfl|hr;exact f5;exact g7 r hr
   cases hf
  cases hf
theorem yO{wl:Nat}{st st':ai}{a a':AV}{v:Value}(hI:jn w G st)(hX:∀b,cj b G.ls st<=1)(h:aS w G a v)(hf:iI wl a st=some (a',st')) :
  ∃G',JQ w G st G' st'/\aS w G' a' v/\a'.b9=true:=by
 unfold iI at hf;split at hf
 ·rename_i id b6;split at hf
  ·rename_i v0 sz rows gi;split at hf
   ·rename_i hc;simp only[Bool.and_eq_true,decide_eq_true_eq,Bool.not_eq_true']at hc;obtain⟨⟨rfl,iR⟩,_⟩:=hc;split at hf
    ·rename_i ee rf Gl;cases hf;obtain⟨loc,hl,BQ,zu,gY⟩:=hI.loc gi;cases h with
     |mu _ _ _ loc' hp pZ Cp he=>
     rw[hl]at pZ;cases pZ;have cG:=he (by omega);subst cG;rcases gY.p0 with⟨_,tG,_⟩|⟨b,off,c,e',sd,fI,fj,eI,hlen,iC,dF⟩;subst tG;simp at iR;obtain⟨f1,f2⟩:=Gp hI gi hl BQ zu;have fD:loc.jK=some b:=(by unfold lB.jK;rw[if_neg (by omega),sd];rfl);have hX1:∀b',fL b' rows loc.vals+cj b' (G.at id (kY sz v0)).ls (st.set id (.rows (v0+1) sz []))<=1:=λb'=>by
      have h1:=f2 b';have h2:=hX b';simp only[iJ]at h1;omega
     obtain⟨G2,g1,g2,g3,g4,g5,g6,g7⟩:=BY f1.inv hX1 gY.tE.symm (λi r y e1 e2=>(gY.tX i r y e1 e2).mono f1.jj λb _=>⟨rfl,rfl⟩) Gl;have h0:cj b (G.at id (kY sz v0)).ls (st.set id (.rows (v0+1) sz []))=0:=by
      have h1:=f2 b;have h2:=hX b;simp only[iJ,fD,if_true]at h1;omega
     have ht2:G2.mj b=some 0:=(g1.wj b h0).trans iC;obtain⟨k1,k2⟩:=Ki g1.inv ht2 (by have:=g1.fG b;omega);refine⟨G2.Cu b,⟨(f1.jj.trans g1.jj).trans k1,k2,λb'=>Nat.le_trans (g1.fG b') (f1.fG b'),λb' nD=>?_⟩,?_,by simp[AV.b9]⟩;have hbb:b'≠b:=by
      intro e;subst e;have h1:=f2 b';simp only[iJ,fD,if_true]at h1;omega
     simp only[aQ.Cu];rw[if_neg hbb];exact g1.wj b' (by have:=f1.fG b';omega);rw[sd,gY.len,<-g2];refine Kj (vals:=loc.vals) (cq.2 λr hr=>?_) g7 g5 g6 (by rw[gY.tE,g2]) (λi r xs h1 h2=>(g3 i r xs h1 h2).mono k1 λb' nD=>by rw[dy b' _ _ (g5 r (cQ h1))]at nD;omega) (by rw[g2];exact hlen) (Array.getElem?_eq_some_iff.1 fj).1 (by simp[aQ.Cu]) dF;obtain⟨i,hi,rfl⟩:=List.mem_iff_getElem.1 hr;have qK:i<rows.length:=(by rw[<-g2];exact hi);rw[g4 i rows[i] ee[i] (List.getElem?_eq_getElem qK) (List.getElem?_eq_getElem hi)];exact cq.1 gY.Gg _ (List.getElem_mem qK)
    cases hf
   cases hf
  cases hf
 cases hf;cases h;exact⟨G,JQ.refl hI,.U,rfl⟩;cases hf
end Ax
namespace Ax
open Go
variable {P:Program}{w w':World}{G G':aQ}{β gw:List mS}{ρ:Operand->Value}{o:Oper}
theorem zz{sz:Nat}{α:Type}:∀(n:Nat)(rows:List (List α)),(∀r∈rows,r.length=sz)->rows.flatten.drop (n*sz)=(rows.drop n).flatten
 |0,rows,_=>by simp|n+1,[],_=>by simp|n+1,r::rows,h=>by
  have h0:r.length=sz:=h r (by simp);have ih:=zz n rows λx hx=>h x (by simp[hx]);rw[List.drop_succ_cons,List.flatten_cons,<-ih,Nat.succ_mul,Nat.add_comm,<-List.drop_drop,<-h0,List.drop_left]
theorem aby{t tx ty e:TypeId}{sz:Nat}(ht:P.underlying t=some (.slice e))(eI:cy P e sz=true)(hk:(∃e',P.underlying tx=some (.slice e'))\/P.underlying tx=some .string)
  {st:ai}{bx:aX}(hI:jn w G st)(hB:j5 w G β bx){cO:Nat->Nat}(hX:∀b,cO b+fR b β bx+cj b G.ls st<=1)
  {s x:AV} {vs vx:Value} (hs:aS w G s vs) (hx:aS w G x vx) {wl J:Nat} {st':ai} {fH:aX} {r:eO} (ha:aP wl J (.copy sz) [.val s,.val x] st bx=some (r,st',fH)) :
  ∃v w' G',(Builtin.copy_ #[t,tx] ty #[vs,vx]).run P w=.ok v w'/\jo w G β st bx cO w' G' β st' fH r v:=by
 obtain⟨i,hi,eI⟩:∃i,P.info? e=some i/\i.size=sz:=by
  unfold cy at eI;split at eI;rename_i i hi;exact⟨i,hi,by simpa using eI⟩;cases eI
 unfold aP at ha;simp only at ha;split at ha
 ·rename_i id b6 x2 heq;simp only[List.cons.injEq,eO.val.injEq,and_true]at heq;obtain⟨rfl,rfl⟩:=heq;split at ha
  ·rename_i v jw old new gi ua;split at ha
   ·rename_i hc;simp only[Bool.and_eq_true,decide_eq_true_eq]at hc;obtain⟨⟨⟨⟨⟨rfl,rfl⟩,cI⟩,hle⟩,_⟩,_⟩:=hc;cases ha;obtain⟨news,dG,oq,iV,iz,_⟩:=xu hI hx ua cI hk;have FC:∀b xs,bU b new.flatten xs=0:=λb xs=>dy b _ _ ((cA _).2 λx hx=>by
     obtain⟨r,hr,hx⟩:=List.mem_flatten.1 hx;exact(cA r).1 (iz r hr) x hx)
    obtain⟨loc,hl,BQ,zu,gY⟩:=hI.loc gi;cases hs with
    |mu _ _ _ loc' hp pZ Cp he=>
    rw[hl]at pZ;cases pZ;have cG:=he (by omega);subst cG;obtain⟨Gl,Xl,hfv,H7⟩:=gY.flat;have hfo:=cq.1 gY.Gg;have Qp:loc.vals.flatten.length=old.length*jw:=(by rw[<-Gl.1];exact fy old hfo);have Mk:news.length=new.length*jw:=oq.newsLen;have abz:Nat.min new.length loc.len=new.length:=(by rw[gY.len];exact Nat.min_eq_left hle);by_cases iR:new=[];subst iR;have h0:news=[]:=List.eq_nil_of_length_eq_zero (by simpa using Mk);subst h0;refine⟨.int .i64 0,w,G,?_,?_⟩;have h1:=oq.len;have h2:=oq.cells;simp only[List.length_nil]at h1 h2 abz;cases sd:loc.a<;>simp[Builtin.copy_,run_underlying ht,Go.sizeOf,typeInfo,hi,eI,h1,h2,abz,storeCells,goInt];have:st.set id (.rows v jw ([]++old.drop 0))=st:=gT st id _ (by simpa using gi);simp only[List.length_nil]at this ⊢;rw[this];exact jo.ni hI hB (.int _ _) λb=>by simp[cx,fG]
    have hn:0<new.length:=List.length_pos_iff.2 iR;rcases gY.p0 with⟨h0,h1,_⟩|⟨b,off,c,e',sd,fI,fj,akG,hlen,iC,dF⟩;rw[h1]at hle;simp at hle;exact absurd hle iR;have MK:off+news.length<=c.size:=by
     rw[Mk];have:new.length*jw<=loc.cap*jw:=Nat.mul_le_mul_right _ (by omega);omega
    have Cs:=gQ (P:=P) b off e' news c w fj MK oq.one;have e1:(Builtin.copy_ #[t,tx] ty #[.slice loc.a loc.len loc.cap,vx]).run P w=.ok (.int .i64 new.length) (w.setRow b (ah c.toList off news).toArray):=by
     have h1:=oq.len;have h2:=oq.cells;simp[Builtin.copy_,run_underlying ht,Go.sizeOf,typeInfo,hi,eI,h1,h2,abz,sd,Cs,goInt]
    have jG:=wu cI (b:=old.drop new.length) (by rw[cq];exact λr hr=>hfo r (List.mem_of_mem_drop hr));have aam:(new++old.drop new.length).length=old.length:=(by simp;omega);have sS:(new++old.drop new.length).flatten=new.flatten++old.flatten.drop (new.length*jw):=by rw[List.flatten_append,zz _ _ hfo]
    let FH:lB:=⟨some ⟨b,off,none⟩,loc.cap,(new++old.drop new.length).length,jw,v,false,rq jw (new++old.drop new.length).length (news++loc.vals.flatten.drop (new.length*jw))⟩
    have FA:∀(i:Nat) l,G.ls[i]?=some l->∃Xo,(G.at id FH).ls[i]?=some Xo/\l.b6<=Xo.b6/\(l.b6=Xo.b6\/l.mp=true->Xo.hd=l.hd):=
     DI hl (by simp only[FH];omega) λ_=>by simp only[FH,lB.hd,sd,aam,gY.len,gY.size,BQ]
    have Od:(G.at id FH).ls[id]?=some FH:=by
     simp only[aQ.at];rw[List.getElem?_set,if_pos rfl,if_pos (List.getElem?_eq_some_iff.1 hl).1]
    have hW:Wr w G (w.setRow b (ah c.toList off news).toArray) ⟨(G.at id FH).ls,λb'=>if b'=b then some 0 else G.mj b'⟩ b:=
     DJ fj MK iC (Nat.zero_le _) (Nat.le_refl _) FA
    have fD:loc.jK=some b:=(by unfold lB.jK;rw[if_neg (by omega),sd];rfl);refine⟨_,_,⟨(G.at id FH).ls,λb'=>if b'=b then some 0 else G.mj b'⟩,e1,?_⟩;refine sU hI hB hX hl gi hW.jj rfl ⟨rfl,rfl,nK (b:=b) (off:=off) (c:=(ah c.toList off news).toArray) (e:=e') (xs:=news++loc.vals.flatten.drop (new.length*jw)) jG (o5 iV λr hr=>gY.CO r (List.mem_of_mem_drop hr)) ?_ rfl rfl rfl rfl fI (setRow_heap w b c _ e' (0,0) fj) (by rw[List.size_toArray,dL];simpa using akG) (by rw[aam];exact hlen) (by simp) λk x hk=>?_⟩
     (hW.mT hI) (λb' _ nD=>hW.jl λe=>nD (by rw[fD,e])) (by simp) rfl rfl (.int _ _) λb'=>?_
    rw[sS];refine(dG.mono hW.jj λb' nD=>by rw[FC]at nD;omega).append ((Gl.drop _).mono hW.jj λb' nD=>hW.jl λe=>?_);subst e;have h3:=xm b' (new.length*jw) _ _ Gl.1;rw[Xl]at h3;have h1:=hX b';have h2:=nI b' G.ls st id loc _ hl gi;simp only[iJ,fD,if_true]at h2;omega;rw[sQ fj MK];by_cases Kc:k<news.length;rw[List.getElem?_append_left Kc]at hk;rw[if_pos (by omega),show off+k-off=k by omega];exact hk;rw[List.getElem?_append_right (by omega),List.getElem?_drop]at hk;rw[if_neg (by omega)];have:=H7 b off dF _ x hk;rw[show new.length*jw+(k-news.length)=k by omega]at this;exact this;have Ke:FH.jK=loc.jK:=by
     rw[fD];simp only[FH];unfold lB.jK;rw[if_neg (show ¬loc.cap=0 by omega)];rfl
    simp only[cx,fG,iJ];rw[Ke];simp only[FH];rw[ru b' (new++old.drop new.length) _ (cq.1 jG) (by rw[sS,List.length_append,List.length_append,dG.1,List.length_drop,List.length_drop,Gl.1]),sS,fK b' _ _ _ _ dG.1,FC];have:=xm b' (new.length*jw) _ _ Gl.1;rw[Xl]at this;omega
   cases ha
  cases ha
 cases ha
theorem zA:∀{rows:List (List AV)}{l:List UInt8},oZ rows=some l->rows=eR l
 |[],l,h=>by simp[oZ]at h;subst h;rfl|r::rows,l,h=>by
  unfold oZ at h;split at h;rename_i heq;cases heq;rename_i n r' heq;simp only[List.cons.injEq]at heq;obtain⟨rfl,rfl⟩:=heq;split at h;rename_i hn;split at h;rename_i l' pZ;cases h;have:=zA pZ;subst this;have h2:(((UInt8.ofNat n.toNat).toNat:Nat):Int)=n:=by
   rw[UInt8.toNat_ofNat'];omega
  show _=[AV.int .u8 (((UInt8.ofNat n.toNat).toNat:Nat):Int)]::eR l';rw[h2];cases h;cases h;cases h
theorem foldl_push(l:List UInt8):∀acc:ByteArray,List.foldl (λb a=>b.push a) acc l=⟨(acc.data.toList++l).toArray⟩:=by
 induction l with
 |nil=>intro acc;simp|cons b l ih=>
  intro acc;rw[List.foldl_cons,ih];simp
theorem Xs{s d e:TypeId}{x:Operand}(ho:o.op=.convert s d x)(hs:P.underlying s=some (.slice e))(he:P.underlying e=some (.int .u8))(hd:P.underlying d=some .string){st:ai}(hI:jn w G st)
  {a:AV}(ha:aS w G a (ρ x)){rows:List (List AV)}(hr:dD st a=some rows){l:List UInt8}(hl:oZ rows=some l):∃u,(execOp ρ o).run P w=.ok (.value u) w/\aS w G (.str l) u:=by
 have zB:=zA hl;subst zB;have cI:bV 1 (eR l)=true:=by simp[bV,eR]
 have hb:cV st a=some (eR l):=by
  unfold cV;split;simp[dD]at hr;rw[hr];simp only[Option.some.injEq,eR,List.map_map];exact List.map_congr_left λ_ _=>rfl;exact hr
 obtain⟨xs,dG,oq,_,_,_⟩:=xu hI ha hb cI (P:=P) (tx:=s) (.inl ⟨e,hs⟩);have hxs:xs=l.map λb=>Value.int .u8 b.toNat:=by
  have Gl:(eR l).flatten=l.map λb=>AV.int .u8 b.toNat:=Gj l;rw[Gl]at dG;apply List.ext_getElem?;intro i;rw[List.getElem?_map];cases hi:l[i]? with
  |none=>
   have:xs.length<=i:=by rw[<-dG.1];simpa using hi
   simpa using this
  |some b=>
   have h1:(l.map λb=>AV.int .u8 b.toNat)[i]?=some (.int .u8 b.toNat):=(by rw[List.getElem?_map,hi];rfl);have h2:i<xs.length:=(by rw[<-dG.1];exact(List.getElem?_eq_some_iff.1 h1).1);have h3:=dG.2 i _ _ h1 (List.getElem?_eq_getElem h2);rw[List.getElem?_eq_getElem h2,h3.fO]
   rfl
 subst hxs;have hlen:(eR l).length=l.length:=by simp[eR]
 rw[hlen]at oq;have dw:(∃n c,ρ x=.slice none n c/\l=[])\/∃ad c,ρ x=.slice (some ad) l.length c:=by
  have h1:=oq.len w;have h2:=oq.cells;generalize ρ x=v at *;cases a with
  |U=>cases ha;exact .inl ⟨_,_,rfl,by simp[dD,eR]at hr;exact hr⟩|lU=>cases ha;exact .inr ⟨_,_,by simp[dD,eR]at hr;subst hr;rfl⟩|dc s' r'=>cases ha;simp[dD]at hr;subst hr;rw[hlen];exact .inr ⟨_,_,rfl⟩|lA s' r'=>cases ha;simp[dD]at hr;subst hr;rw[hlen];exact .inr ⟨_,_,rfl⟩|mu id b6=>
   cases ha with
   |mu _ _ _ loc hp H9 hv he2=>
    obtain⟨p,n,c,rfl⟩:=hp;simp[Builtin.lenOf]at h1;subst h1;cases p with
    |some p=>exact .inr ⟨_,_,rfl⟩|none=>
     simp[Builtin.firstCells]at h2;exact .inl ⟨_,_,rfl,h2⟩
  |_=>simp[dD]at hr
 refine⟨.string ⟨l.toArray⟩,?_,.str _ _ (by simp)⟩;rcases dw with⟨n,c,h1,rfl⟩|⟨ad,c,h1⟩;simp[execOp,ho,convert,run_underlying hs,run_underlying hd,run_underlying he,h1,Conv.bytesToString]
 rfl
 have h2:=oq.cells;rw[h1]at h2;simp only[Builtin.firstCells,Nat.mul_one]at h2;simp only[execOp,ho,convert,h1];simp[run_underlying hs,run_underlying hd,run_underlying he,Conv.bytesToString,h2,foldl_push]
end Ax
namespace Ax
open Go
variable {P:Program}{w w':World}{G G':aQ}{β gw:List mS}{ρ:Operand->Value}{o:Oper}
theorem Qv{α:Type}(r:List α)(k:Nat)(v:α)(h:k<r.length):ah r k [v]=r.set k v:=by
 rw[jM _ _ _ (by simp;omega)];rw[List.set_eq_take_append_cons_drop,if_pos h];simp
theorem Kk(b:Nat):∀(r:List AV)(xs:List Value)(k:Nat)(v v':AV)(x:Value),r[k]?=some v->xs[k]?=some x->bU b (r.set k v') xs+fG b v x=bU b r xs+fG b v' x
 |[],_,_,_,_,_,h,_=>by simp at h|_::_,[],_,_,_,_,_,h=>by simp at h|r::rs,x::xs,0,v,v',x',h,k=>by simp at h k;subst h;subst k;simp only[List.set_cons_zero,bU];omega|r::rs,x::xs,i+1,v,v',x',h,k=>by
  have:=Kk b rs xs i v v' x' (by simpa using h) (by simpa using k);simp only[List.set_cons_succ,bU];omega
theorem Kl(G:aQ)(ls:List lB):sK w G w ⟨G.ls++ls,G.mj⟩ where
 Sj:=λ_ _ h=>⟨rfl,h⟩
 gX:=λid loc hl=>⟨loc,by
  rw[List.getElem?_append_left (List.getElem?_eq_some_iff.1 hl).1];exact hl,Nat.le_refl _,λ_=>rfl⟩
theorem Xt{st:ai}{loc:lB}{ob:fq}(hI:jn w G st)(h:p6 w ⟨G.ls++[loc],G.mj⟩ ob loc):jn w ⟨G.ls++[loc],G.mj⟩ (st++[ob]) where
 len:=by simp[hI.len]
 mT:=hI.mT
 bC:=λid JO l h1 h2=>by
  simp only at h2;by_cases JP:id<st.length;rw[List.getElem?_append_left JP]at h1;rw[List.getElem?_append_left (by rw[hI.len];exact JP)]at h2;exact(hI.bC id JO l h1 h2).jj (Kl G _) λb _=>⟨rfl,rfl⟩;rw[List.getElem?_append_right (by omega)]at h1;rw[List.getElem?_append_right (by rw[hI.len];omega),hI.len]at h2;by_cases he:id-st.length=0;rw[he]at h1 h2;simp at h1 h2;subst h1;subst h2;exact h;obtain⟨n,hn⟩:∃n,id-st.length=n+1:=⟨id-st.length-1,by omega⟩;rw[hn]at h1;simp at h1
def uN(w:World)(a:Addr)(sz:Nat)(rows:List (List AV)):List (List Value):=
 rows.mapIdx λi r=>r.mapIdx λj _=>(w.cell? ⟨a.block,a.off+(i*sz+j),none⟩).getD Go.undef
theorem Xu{st:ai}{id ve i k k2 sz jw:Nat}{rows ee:List (List AV)}{r:List AV}{u:Value}(hI:jn w G st)(hp:aS w G (.ptr id ve i k) u)
  (gi:st[id]?=some (.rows ve sz rows))(dj:rows[i]?=some r)(hv:r[k2]?=some (.raw jw ee)) :
  ∃G',JQ w G st G' ((st++[fq.rows 0 jw ee]).set id (.rows ve sz (rows.set i (ah r k2 [.mu st.length 0])))):=by
 obtain⟨loc,b,o,c,e,xs,hl,BQ,zu,gY,MF,sd,fI,fD,fj,hle,hlen,iC,MG,mo,dF⟩:=zy hI hp gi dj;have Ws:k2<r.length:=(List.getElem?_eq_some_iff.1 hv).1;obtain⟨x,hx⟩:∃x,xs[k2]?=some x:=⟨_,List.getElem?_eq_getElem (by rw[<-mo.1];exact Ws)⟩;have dG:=mo.2 _ _ _ hv hx;cases dG with
 |raw _ _ a cap oF aao cI iz pC w9 hc hr ht hb=>
 obtain⟨cc,ce,hb1,hb2⟩:=hb;have key:∀(i:Nat) r (j:Nat) c,ee[i]?=some r->r[j]?=some c->∃v,(uN w a jw ee)[i]?.bind (·[j]?)=some v/\w.cell? ⟨a.block,a.off+(i*jw+j),none⟩=some v:=by
  intro i r j c h1 h2;obtain⟨v,hv⟩:=hc i r j c h1 h2;exact⟨v,by simp[uN,h1,h2,hv],hv⟩
 have hcl:∀(i:Nat) xs (j:Nat) x,(uN w a jw ee)[i]?=some xs->xs[j]?=some x->w.cell? ⟨a.block,a.off+(i*jw+j),none⟩=some x:=by
  intro i xs j x h1 h2;simp only[uN,List.getElem?_mapIdx,Option.map_eq_some_iff]at h1;obtain⟨r,h3,rfl⟩:=h1;simp only[List.getElem?_mapIdx,Option.map_eq_some_iff]at h2;obtain⟨c,h4,rfl⟩:=h2;obtain⟨v,hv⟩:=hc i r j c h3 h4;rw[hv];rfl
 have af8:(some a:Option Addr)=some ⟨a.block,a.off,none⟩:=by rw[<-oF]
 let loc':lB:=⟨some a,cap,ee.length,jw,0,false,uN w a jw ee⟩
 let G':aQ:=⟨G.ls++[loc'],G.mj⟩
 have Xv:sK w G w G':=Kl G _;have hO:p6 w G' (.rows 0 jw ee) loc':=by
  refine⟨rfl,rfl,cI,w9,rfl,rfl,by simp[loc',uN],λi r xs h1 h2=>⟨?_,λj c v h3 h4=>?_⟩,?_⟩;simp only[loc',uN,List.getElem?_mapIdx,h1,Option.map_some,Option.some.injEq]at h2;subst h2;simp;have h5:=hcl i xs j v h2 h4;exact(hr i r j c v h1 h3 h5).AX Xv ((cA r).1 (iz r (cQ h1)) c (cQ h3));rcases Nat.eq_zero_or_pos cap with h0|h0;refine .inl ⟨h0,?_,rfl⟩;cases ee with
  |nil=>rfl|cons _ _=>simp at aao;omega
  exact .inr ⟨a.block,a.off,cc,ce,af8,h0,hb1,hb2,aao,ht,hcl⟩
 have hI1:jn w G' (st++[fq.rows 0 jw ee]):=Xt hI hO;have JP:id<st.length:=(List.getElem?_eq_some_iff.1 gi).1;have Cs:(st++[fq.rows 0 jw ee])[id]?=some (.rows ve sz rows):=by rw[List.getElem?_append_left JP];exact gi
 have Of:G'.ls[id]?=some loc:=by
  show (G.ls++[loc'])[id]?=_;rw[List.getElem?_append_left (by rw[hI.len];exact JP)];exact hl
 have hmu:aS w G' (.mu st.length 0) (.slice (some a) ee.length cap):=by
  refine .mu _ _ _ loc' ⟨_,_,_,rfl⟩ ?_ (Nat.le_refl _) λ_=>rfl;show (G.ls++[loc'])[st.length]?=_;rw[List.getElem?_append_right (by rw[hI.len];exact Nat.le_refl _),hI.len];simp
 have MM:ah r k2 [AV.mu st.length 0]=r.set k2 (.mu st.length 0):=Qv r k2 _ Ws;have SQ:cn w G' r xs:=⟨mo.1,λj c v h1 h2=>(mo.2 j c v h1 h2).jj Xv λ_ _=>⟨rfl,rfl⟩⟩;have ua:p6 w G' (.rows ve sz (rows.set i (ah r k2 [.mu st.length 0]))) loc:=by
  rw[MM];refine⟨BQ,zu,cq.2 λr' x6=>?_,λr' x6=>?_,by simp[gY.len],gY.size,by simp[gY.tE],λi' r' Ml h1 h2=>?_,.inr ⟨b,o,c,e,sd,fI,fj,hle,by simpa using hlen,iC,dF⟩⟩;rcases List.mem_or_eq_of_mem_set x6 with h|h;exact cq.1 gY.Gg r' h;rw[h,List.length_set];exact cq.1 gY.Gg r (cQ dj);rcases List.mem_or_eq_of_mem_set x6 with h|h;exact gY.CO r' h;rw[h,<-MM];exact jN (gY.CO r (cQ dj)) (by simp[AV.aO,AV.cL]) (by simp;omega);rw[List.getElem?_set]at h1;by_cases MI:i=i';subst MI;rw[if_pos rfl]at h1;split at h1;cases h1;rw[MG]at h2;cases h2;refine⟨by rw[List.length_set];exact mo.1,λj c v h3 h4=>?_⟩;rw[List.getElem?_set]at h3;by_cases hjj:k2=j;subst hjj;rw[if_pos rfl,if_pos Ws]at h3;cases h3;rw[hx]at h4;cases h4;exact hmu;rw[if_neg hjj]at h3;exact SQ.2 j c v h3 h4;cases h1;rw[if_neg MI]at h1;have h3:=gY.tX i' r' Ml h1 h2;exact⟨h3.1,λj c v h4 h5=>(h3.2 j c v h4 h5).jj Xv λ_ _=>⟨rfl,rfl⟩⟩
 refine⟨G',Xv,CS hI1 (sK.refl w G') (gT _ _ _ Of).symm (λ_ _ _ _ _ _ _ _=>⟨rfl,rfl⟩) ua hI1.mT,λb'=>?_,λ_ _=>rfl⟩;have h1:=wh b' G'.ls (st++[fq.rows 0 jw ee]) id loc _ loc (.rows ve sz (rows.set i (ah r k2 [.mu st.length 0]))) Of Cs;rw[gT _ _ _ Of]at h1;have h4:=tY b' rows loc.vals i r xs (ah r k2 [.mu st.length 0]) xs dj MG;rw[gT _ _ _ MG]at h4;have h5:=Kk b' r xs k2 _ (.mu st.length 0) _ hv hx;rw[<-MM]at h5;have h6:cj b' G'.ls (st++[fq.rows 0 jw ee])=cj b' G.ls st+cj b' [loc'] [fq.rows 0 jw ee]:=sL b' _ _ _ _ hI.len;have h7:cj b' [loc'] [fq.rows 0 jw ee]<=fG b' (.raw jw ee) (.slice (some a) ee.length cap):=by
  simp only[cj,iJ,fG,BT b' ee _ iz,loc',lB.jK,Nat.add_zero];by_cases Wv:cap=0;simp[Wv];simp[Wv]
 have h8:fG b' (.mu st.length 0) (.slice (some a) ee.length cap)=0:=by simp[fG]
 simp only[iJ]at h1;omega
end Ax
namespace Ax
open Go
variable {P:Program}{w w':World}{G G':aQ}{β gw:List mS}{ρ:Operand->Value}{o:Oper}
def jq(P:Program)(ρ:Operand->Value)(o:Oper)(w:World)(G:aQ)(β:List mS)(st:ai)(bx:aX)(cO:Nat->Nat)(nb:Option Nat)(r:eO)(st':ai)(fH:aX):Prop:=
 ∃n v w' G' gw,(execOp ρ o).run P w=.ok n w'/\(n=.value v\/n=.skip/\v=undef)/\jo w G β st bx cO w' G' gw st' fH r v/\eU nb β gw
theorem jq.ni{st:ai}{bx:aX}{cO:Nat->Nat}{nb:Option Nat}{r:eO}(hI:jn w G st)(hB:j5 w G β bx){u:Value}(h:(execOp ρ o).run P w=.ok (.value u) w)(hr:kF w G β r u)(hc:∀b,cx b r u<=cO b):jq P ρ o w G β st bx cO nb r st bx:=
 ⟨_,u,w,G,β,h,.inl rfl,jo.ni hI hB hr hc,eU.refl _ _⟩
theorem jq.b9{st:ai}{bx:aX}{cO:Nat->Nat}{nb:Option Nat}{a:AV}(hI:jn w G st)(hB:j5 w G β bx){u:Value}(h:(execOp ρ o).run P w=.ok (.value u) w)(hr:aS w G a u)(hn:a.b9=true):jq P ρ o w G β st bx cO nb (.val a) st bx:=
 jq.ni hI hB h hr λb=>by simp only[cx,eS b a u hn];omega
theorem kX.Qw{vals:List eO}{xs:List Value}{vs:List AV}(h:kX w G β vals xs)(hv:je vals=some vs):cn w G vs xs/\∀b,mm b vals xs=bU b vs xs:=by
 obtain⟨e1,e2,e3⟩:=h.vals hv;exact⟨⟨e2,e3⟩,λb=>by rw[e1,Du]⟩
theorem zC{rows:List (List AV)}(h:rows.all AV.aO=true):∀r∈rows,AV.aO r=true:=by simpa using h
theorem Km{rows:List (List AV)}(h:rows.all AV.af=true):∀r∈rows,AV.af r=true:=by simpa using h
theorem zD{sz:Nat}{p:AV->Prop}:∀(qs:List Nat)(vs:List AV)(rows ee:List (List AV)),(∀r∈rows,∀c∈r,p c)->(∀v∈vs,∀c∈v.cells,p c)->fW sz rows qs vs=some ee->∀r∈ee,∀c∈r,p c
 |[],[],rows,ee,hr,_,h=>by simp[fW]at h;subst h;exact hr|[],_::_,_,_,_,_,h=>by simp[fW]at h|_::_,[],_,_,_,_,h=>by simp[fW]at h|i::qs,v::vs,rows,ee,hr,hv,h=>by
  simp only[fW]at h;split at h;refine zD qs vs _ ee (λr hm=>?_) (λu hu=>hv u (by simp[hu])) h;rcases List.mem_or_eq_of_mem_set hm with h1|h1;exact hr r h1;rw[h1];exact hv v (by simp);cases h
theorem Kn{v:AV}(h:v.b9=true):∀c∈v.cells,c.b9=true:=by
 cases v<;>simp_all [AV.cells,AV.b9];exact(cA _).1 h
theorem Ko(vs:List AV):∀v∈AV.cJ vs,v.b9=true:=(cA _).1 (gf vs)
theorem DQ{x:Option Operand}{d a:Int}{vals rest:List eO}{xs:List Value}(h:sF x.isSome d vals=some (a,rest))(hR:kX w G β vals (x.toList.map ρ++xs)):yL ρ x d a/\kX w G β rest xs:=by
 unfold sF at h;cases x with
 |none=>simp at h;obtain⟨rfl,rfl⟩:=h;exact⟨.inl ⟨rfl,rfl⟩,by simpa using hR⟩|some y=>
  simp only[Option.isSome_some,if_true]at h;split at h;rename_i n r;cases h;simp only[Option.toList_some,List.map_cons,List.map_nil,List.cons_append,List.nil_append,kX,kF]at hR;exact⟨.inr ⟨y,rfl,hR.1.fO⟩,hR.2⟩;cases h
theorem xx{c:Call}{t u:TypeId}(h2:c.argTypes.size=2)(h0:c.argTypes[0]?=some t)(h1:c.argTypes[1]?=some u):c.argTypes = #[t,u]:=by
 apply Array.ext_getElem?;intro i;match i with
 |0=>simpa using h0|1=>simpa using h1|i+2=>simp;omega
section
variable {S:Nat->Option aD}{so:aY}{vals:List eO}{wl J:Nat}{st st':ai}{bx fH:aX}{cO:Nat->Nat}{r:eO}
theorem Xw{t:TypeId}{x:Operand}{lo hi mx:Option Operand}{vZ:Bool}{sz:Nat}(ho:o.op=.slice t x lo hi mx)(hmh:mx.isSome=true->hi.isSome=true)
  (hu:match P.underlying t with|some (.slice e)=>(!vZ&&cy P e sz)=true|some .string=>(vZ && !mx.isSome)=true|_=>False)(hI:jn w G st)(hB:j5 w G β bx)
  (hR:kX w G β vals ((xk x lo hi mx).map ρ)) (hcO:∀b,mm b vals ((xk x lo hi mx).map ρ)<=cO b) (ha:aP wl J (.slice vZ lo.isSome hi.isSome mx.isSome sz) vals st bx=some (r,st',fH)) :
  jq P ρ o w G β st bx cO none r st' fH:=by
 simp only[xk,List.map_cons,List.map_append]at hR;unfold aP at ha;simp only at ha;split at ha;rename_i a l;obtain⟨Wx,hRl⟩:=hR;simp only[kF]at Wx;split at ha;cases ha;rename_i n hn;split at ha;cases ha;rename_i lov l1 hlo;obtain⟨Ie,hR1⟩:=DQ hlo (xs:=hi.toList.map ρ++mx.toList.map ρ) (by simpa [List.append_assoc] using hRl);split at ha;cases ha;rename_i hiv l2 hhi;obtain⟨Ig,hR2⟩:=DQ hhi hR1;split at ha;rename_i hmx;have akK:mx=none:=by cases mx<;>simp_all
 subst akK;split at ha;rename_i v hv;cases ha;unfold jJ at hv;split at hv;rename_i s;split at hv;rename_i hc;simp only[Bool.and_eq_true,decide_eq_true_eq]at hc;obtain⟨⟨⟨_,h0⟩,h1⟩,h2⟩:=hc;cases hv;simp only[if_true,oD,Option.some.injEq]at hn;subst hn;have hus:P.underlying t=some .string:=by
  split at hu;simp at hu
  assumption
  exact hu.elim
 obtain⟨u,e1,e2⟩:=Mx ho hus Wx Ie Ig h0 h1 h2;exact jq.b9 hI hB e1 e2 rfl;cases hv;simp only[Bool.and_true]at hv;split at hv;rename_i hc;simp only[Bool.and_eq_true,decide_eq_true_eq]at hc;obtain⟨rfl,rfl⟩:=hc;cases hv;simp only[oD,dD]at hn;cases hn;split at hu;rename_i e Ih;simp only[Bool.and_eq_true]at hu;exact jq.b9 hI hB (DB ho Ih hu.2 Wx Ie Ig (.inl rfl)) .U rfl;simp at hu;exact hu.elim;cases hv;simp only[Bool.and_true]at hv;split at hv;rename_i hc;simp only[Bool.and_eq_true,decide_eq_true_eq]at hc;obtain⟨rfl,rfl⟩:=hc;cases hv;simp only[oD,dD]at hn;cases hn;split at hu;rename_i e Ih;simp only[Bool.and_eq_true]at hu;obtain⟨u,e1,e2⟩:=BS ho Ih hu.2 Wx Ie Ig (.inl rfl);exact jq.b9 hI hB e1 e2 rfl;simp at hu;exact hu.elim;cases hv;rename_i s rows;simp only at hv;split at hv;rename_i hc;simp only[Bool.and_eq_true,decide_eq_true_eq]at hc;obtain⟨⟨⟨rfl,h0⟩,h1⟩,h2⟩:=hc;cases hv;simp only[oD,dD]at hn;cases hn;split at hu;rename_i e Ih;simp only[Bool.and_eq_true]at hu;obtain⟨u,e1,e2⟩:=DA ho Ih hu.2 Wx Ie Ig h0 h1 h2;exact jq.b9 hI hB e1 e2 rfl;simp at hu;exact hu.elim;cases hv;rename_i s rows;simp only at hv;split at hv;rename_i hc;simp only[Bool.and_eq_true,decide_eq_true_eq]at hc;obtain⟨⟨⟨rfl,h0⟩,h1⟩,h2⟩:=hc;cases hv;simp only[oD,dD]at hn;cases hn;split at hu;rename_i e Ih;simp only[Bool.and_eq_true]at hu;obtain⟨u,e1,e2⟩:=DA ho Ih hu.2 Wx.aa Ie Ig h0 h1 h2;exact jq.b9 hI hB e1 e2 rfl;simp at hu;exact hu.elim;cases hv;cases hv;cases ha;rename_i m hmx;obtain⟨z,rfl⟩:∃z,mx=some z:=by cases mx<;>simp_all
 simp only[Option.toList_some,List.map_cons,List.map_nil,kX,kF]at hR2;have hz:=hR2.1.fO;split at ha;rename_i v hv;cases ha;unfold jJ at hv;split at hv;simp at hv;simp only at hv;split at hv;rename_i hc;simp only[Bool.and_eq_true,decide_eq_true_eq,beq_iff_eq]at hc;obtain⟨⟨rfl,rfl⟩,rfl⟩:=hc;cases hv;simp only[oD,dD]at hn;cases hn;split at hu;rename_i e Ih;simp only[Bool.and_eq_true]at hu;exact jq.b9 hI hB (DB ho Ih hu.2 Wx Ie Ig (.inr ⟨z,rfl,hmh rfl,hz⟩)) .U rfl;simp at hu;exact hu.elim;cases hv;simp only at hv;split at hv;rename_i hc;simp only[Bool.and_eq_true,decide_eq_true_eq,beq_iff_eq]at hc;obtain⟨⟨rfl,rfl⟩,rfl⟩:=hc;cases hv;simp only[oD,dD]at hn;cases hn;split at hu;rename_i e Ih;simp only[Bool.and_eq_true]at hu;obtain⟨u,e1,e2⟩:=BS ho Ih hu.2 Wx Ie Ig (.inr ⟨z,rfl,hmh rfl,hz⟩);exact jq.b9 hI hB e1 e2 rfl;simp at hu;exact hu.elim;cases hv;rename_i s rows;simp only at hv;split at hv;rename_i hc;simp only[Bool.and_eq_true,decide_eq_true_eq]at hc;obtain⟨⟨rfl,rfl⟩,rfl⟩:=hc;cases hv;simp only[oD,dD]at hn;cases hn;split at hu;rename_i e Ih;simp only[Bool.and_eq_true]at hu;obtain⟨u,e1,e2⟩:=DC ho Ih hu.2 Wx Ie Ig (hmh rfl) hz;exact jq.b9 hI hB e1 e2 rfl;simp at hu;exact hu.elim;cases hv;rename_i s rows;simp only at hv;split at hv;rename_i hc;simp only[Bool.and_eq_true,decide_eq_true_eq]at hc;obtain⟨⟨rfl,rfl⟩,rfl⟩:=hc;cases hv;simp only[oD,dD]at hn;cases hn;split at hu;rename_i e Ih;simp only[Bool.and_eq_true]at hu;obtain⟨u,e1,e2⟩:=DC ho Ih hu.2 Wx.aa Ie Ig (hmh rfl) hz;exact jq.b9 hI hB e1 e2 rfl;simp at hu;exact hu.elim;cases hv;cases hv;cases ha;cases ha;cases ha
end
end Ax
