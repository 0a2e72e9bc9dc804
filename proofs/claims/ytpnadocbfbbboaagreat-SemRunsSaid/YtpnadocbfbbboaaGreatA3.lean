/- Part of a proof. -/
import Derived.Test.YtpnadocbfbbboaaGreatA2
import Derived.IntWalk

open List renaming mem_iff_getElem->abo,getElem?_eq_getElem->aag,getElem_mem->aaq,getElem?_append_left->aal,getElem?_eq_some_iff->aad,getElem?_append_right->aar,eq_nil_of_length_eq_zero->aaK,append_assoc->aeF,size_toArray->aew,length_append->abv,mem_flatten->aeZ,length_pos_iff->afc,nil_append->adn,getElem?_set->abp,append_nil->ac5,flatten_append->agq,eq_of_mem_replicate->abt,all_eq_true->aaB,mem_of_mem_take->adz,mem_of_mem_drop->adA,mem_or_eq_of_mem_set->acG,getElem?_map->aei,all_cons->agm,map_cons->abn,mem_map->ab9,drop_drop->adC,take_append_drop->aey,length_map->ac7,ext_getElem?->aeE,getElem?_take->acv,getElem?_drop->adw,mem_cons->ac1,length_nil->aeP,length_drop->acF,getElem?_mapIdx->ag9,length_set->agv
open Option renaming map_eq_some_iff->acs,map_some->aef,toList_some->ah7
open Nat renaming le_refl->aau,mul_le_mul_right->acw,add_mul->ae7,zero_add->aex,zero_le->adF,succ_mul->aeq
open Bool renaming and_eq_true->aac,not_eq_true'->adu,and_true->agw
open Array renaming getElem?_eq_some_iff->abq,getElem?_setIfInBounds->ahc
namespace Ax
open Go
variable {P:Program}{w w':World}{G G':bD}{β iM:List nD}{ρ:Operand->Value}{o:Oper}
theorem tO{st:ay}{bx:bG}{cO:Nat->Nat}(hI:j8 w G st)(hB:kM w G β bx)(hX:∀b,cO b+ir b β bx+cR b G.ls st<=1){id:Nat}{loc loc':lY}{ob Jw:dA}{e:fL}{v:Value}
  (hl:G.ls[id]?=some loc)(ja:st[id]?=some ob)(hs:tG w G w' G')(RK:G'.ls=G.ls.set id loc')(uM:qE w' G' Jw loc')(ht:∀b p,G'.mR b=some p->b<w'.heap.size)
  (JV:∀b,b<w.heap.size->loc.jB≠some b->fG w G w' G' b) (RN:w.heap.size<=w'.heap.size) (LI:w'.os=w.os) (yO:w'.output=w.output) (fm:lf w' G' β e v)
  (hc:∀b,dg b e v+jm b loc' Jw<=cO b+jm b loc ob+(if w.heap.size<=b then 1 else 0)):jZ w G β st bx cO w' G' β (st.set id Jw) bx e v:=by
 have ig:∀b,loc.jB=some b->jm b loc ob ≥ 1:=by
  intro b hb;cases ob<;>simp[jm,hb]
 refine⟨hs,Dg hI hs RK (λi l ob2 b hi h1 h2 h3=>?_) uM ht,nN hB hs λb hb=>?_,fm,λb=>?_,λb hb bC=>?_,RN,LI,yO⟩;refine JV b ((hI.aX i ob2 l h2 h1).held h3) λhb=>?_;have h4:=ig b hb;have h5:=JQ b G.ls st i id l ob2 loc ob hi h1 h2 hl ja;have:=hX b;omega;refine JV b (hB.held hb) λnV=>?_;have h4:=ig b nV;have h5:=n6 b G.ls st id loc ob hl ja;have:=hX b;omega;have h1:=w7 b G.ls st id loc ob loc' Jw hl ja;have h2:=hc b;rw[RK];omega;refine JV b bC λnV=>?_;have h4:=ig b nV;have h5:=n6 b G.ls st id loc ob hl ja;omega
variable{e t tx ty:TypeId}{sz bytes:Nat}{i:TypeInfo}{z vs vx:Value}{news:List Value}{s:AV}
theorem wZ.flat{rows:List (List AV)}{loc:lY}(h:wZ w G sz rows loc):cU w G rows.flatten loc.vals.flatten/\(∀b,cL b rows.flatten loc.vals.flatten=g8 b rows loc.vals)/\(∀r∈loc.vals,r.length=sz)/\
  ∀b off,(∀(i:Nat) xs (j:Nat) x,loc.vals[i]?=some xs->xs[j]?=some x->w.cell? ⟨b,off+(i*sz+j),none⟩=some x)->∀(k:Nat) x,loc.vals.flatten[k]?=some x->w.cell? ⟨b,off+k,none⟩=some x:=by
 have NZ:∀r∈loc.vals,r.length=sz:=λr hr=>by
  obtain⟨i,hi,rfl⟩:=abo.1 hr;have rN:i<rows.length:=by rw[<-h.uf];exact hi
  rw[<-(h.uI i rows[i] loc.vals[i] (aag rN) (aag hi)).1];exact cV.1 h.GF _ (aaq rN)
 refine⟨vA rows loc.vals h.uf.symm h.uI,λb=>Af b rows loc.vals h.uf.symm λi r xs h1 h2=>(h.uI i r xs h1 h2).1,NZ,λb off hc k x hx=>?_⟩;obtain⟨i,j,r,rfl,e2,e3⟩:=qj loc.vals k x NZ hx;exact hc i r j x e2 e3
theorem RO{st:ay}{bx:bG}{cO:Nat->Nat}(hI:j8 w G st)(hB:kM w G β bx){a:Option Addr}(zX:a.isSome=true) :
  ∃G',jZ w G β st bx cO w G' β (st++[.rows 0 sz []]) bx (.val (.mu st.length 0)) (.slice a 0 0):=by
 have CU:∀(id:Nat) loc,G.ls[id]?=some loc->∃loc',(G.ls++[⟨a,0,0,sz,0,false,[]⟩])[id]?=some loc'/\loc.cQ<=loc'.cQ/\(loc.cQ=loc'.cQ\/loc.mp=true->loc'.hd=loc.hd):=λid loc h=>
  ⟨loc,by rw[aal (aad.1 h).1];exact h,aau _,λ_=>rfl⟩
 have hs:tG w G w ⟨G.ls++[⟨a,0,0,sz,0,false,[]⟩],G.mR⟩:=⟨λ_ _ h=>⟨rfl,h⟩,CU⟩;refine⟨⟨G.ls++[⟨a,0,0,sz,0,false,[]⟩],G.mR⟩,hs,⟨by simp[hI.len],λid ob loc h1 h2=>?_,hI.nE⟩,nN hB hs λb _=>⟨rfl,rfl⟩,.mu _ _ _ ⟨a,0,0,sz,0,false,[]⟩ ⟨_,_,_,rfl⟩ ?_ (aau _) λ_=>rfl,λb=>?_,λb _ _=>⟨rfl,rfl⟩,aau _,rfl,rfl⟩;by_cases Bw:id<st.length;rw[aal Bw]at h1;simp only at h2;rw[aal (by rw[hI.len];exact Bw)]at h2;exact(hI.aX id ob loc h1 h2).jT hs λb _=>⟨rfl,rfl⟩;rw[aar (by omega)]at h1;simp only at h2;rw[aar (by rw[hI.len];omega),hI.len]at h2;have h0:id-st.length=0:=by have:=(aad.1 h1).1;simp at this;omega
 rw[h0]at h1 h2;simp at h1 h2;subst h1;subst h2;exact⟨rfl,rfl,by simp[cn],by simp,rfl,rfl,rfl,λi r xs h=>by simp at h,.inl ⟨rfl,rfl,zX⟩⟩;simp only;rw[aar (by rw[hI.len];exact aau _),hI.len];simp;simp only[dg,gT];rw[tH b _ _ _ _ hI.len];have h0:cR b [⟨a,0,0,sz,0,false,[]⟩] [.rows 0 sz []]=0:=by simp[cR,jm,lY.jB,g8]
 rw[h0];omega
structure aao (P:Program)(t tx ty e:TypeId)(sz bytes:Nat)(x:Value)(n:Nat)(news:List Value)(w:World):Prop where
 newsLen:news.length=n*sz
 Dh:n=0->∀base iJ kT,iJ<=kT->(Builtin.append_ #[t,tx] ty #[.slice base iJ kT,x]).run P w=.ok (.slice base iJ kT) w
 cN:∀(b off iJ kT:Nat) (gh:Array Value) (e0:TypeId),w.heap[b]?=some (.cells gh e0 (0,0))->iJ+n<=kT->off+kT*sz<=gh.size->
  (Builtin.append_ #[t,tx] ty #[.slice (some ⟨b,off,none⟩) iJ kT,x]).run P w=.ok (.slice (some ⟨b,off,none⟩) (iJ+n) kT) (w.setRow b (au gh.toList (off+iJ*sz) news).toArray)
 new:∀(base:Option Addr) (iJ kT:Nat) (olds:List Value),(Builtin.firstCells sz iJ (.slice base iJ kT)).run P w.drew=.ok olds.toArray w.drew->olds.length=iJ*sz->kT<iJ+n->(iJ+n)*bytes<=140737488355328->
  ∃cap c,(Builtin.append_ #[t,tx] ty #[.slice base iJ kT,x]).run P w=.ok (.slice (some ⟨w.heap.size,0,none⟩) (iJ+n) cap) (w.drew.alloc (.cells c e))/\iJ+n<=cap/\cap*sz<=c.size/\
   ∀(k:Nat) v,(olds++news)[k]?=some v->c[k]?=some v
theorem RT(h:L8 P t tx e sz bytes i z){x:Value}{n:Nat}(hs:Go.Src P sz tx x n news w):aao P t tx ty e sz bytes x n news w where
 newsLen:=hs.newsLen
 Dh:=λh0 base iJ kT hle=>by
  subst h0;have hn:news=[]:=aaK (by simpa using hs.newsLen);subst hn;exact run_append_nothing w t tx ty e i h.ht h.hi base iJ kT hle x (by rw[h.dM];exact hs)
 cN:=λb off iJ kT gh e0 hg h1 h2=>sA h b off iJ kT gh e0 hg x n news hs h1 h2
 new:=λbase iJ kT olds hold N2 hg hb=>sB h base iJ kT olds hold N2 x n news hs hg hb
theorem Ib(z:Array Value)(n sz:Nat)(hz:z.size=sz):(Builtin.zeroCells z n).toList=((Array.range (n*sz)).map (z[· % z.size]!)).toList:=by
 subst hz;rfl
theorem L9(ht:P.underlying t=some (.slice e))(hk:∃k,P.underlying tx=some (.int k))(hi:P.info? e=some i)(hz:i.zero=some z)(dM:i.size=sz)(We:i.bytes=bytes)
  (Pt:z.cells.size=sz)(pos:0<sz)(RL:0<bytes){n:Int}(h0:0<=n)(hr:n*bytes<=140737488355328)(w:World)(lU:∀u∈(Builtin.zeroCells z.cells n.toNat).toList,u.oneCell'=true) :
  aao P t tx ty e sz bytes (.int .i64 n) n.toNat (Builtin.zeroCells z.cells n.toNat).toList w:=by
 obtain⟨k,hk⟩:=hk;subst dM;subst We;have hn:n<=140737488355328:=by
  have:n*1<=n*i.bytes:=Int.mul_le_mul_of_nonneg_left (by omega) (by omega);omega
 have hw:IntKind.i64.wrap n=n:=IntWalk.i64_in n ⟨by omega,by omega⟩;have Wi:¬n<0:=by omega
 have Wj:¬(281474976710656<n*i.bytes):=by omega
 have hlen:(Builtin.zeroCells z.cells n.toNat).toList.length=n.toNat*i.size:=by rw[Array.length_toList,size_zeroCells,Pt]
 refine⟨hlen,λe0 base iJ kT hle=>?_,λb off iJ kT gh e0 hg h1 h2=>?_,λbase iJ kT olds hold N2 hg hb=>?_⟩;have Gi:n=0:=by omega
 subst Gi;cases base<;>simp[Builtin.append_,cj ht,cj hk,Go.sizeOf,typeInfo,hi,asInt,asIntOf,hw,hle,storeCells];have hle:off+iJ*i.size+n.toNat*i.size<=gh.size:=by
  have:(iJ+n.toNat)*i.size<=kT*i.size:=acw _ h1;rw[ae7]at this;omega
 have ja:=iY (P:=P) b (off+iJ*i.size) e0 _ gh w hg (by rw[hlen];exact hle) lU;by_cases Q6:n.toNat*i.size=0;have Gi:(Builtin.zeroCells z.cells n.toNat).toList=[]:=aaK (by rw[hlen,Q6]);rw[Gi]at ja ⊢;simp[Builtin.append_,cj ht,cj hk,Go.sizeOf,typeInfo,hi,asInt,asIntOf,hw,Wi,Wj,Q6,h1,Addr.add_lit,ja];simp[Builtin.append_,cj ht,cj hk,Go.sizeOf,typeInfo,zeroValue,hi,hz,asInt,asIntOf,hw,Wi,Wj,Q6,h1,Addr.add_lit,ja];have hn:¬(iJ+n.toNat<=kT):=by omega
 have h63:¬(9223372036854775807<((iJ:Int)+(n.toNat:Int))):=by have:=N1 hb RL;omega
 have aeW:¬(9223372036854775807<((iJ:Int)+max n 0)):=by omega
 have h48:¬(281474976710656<Builtin.nextslicecap (iJ+n.toNat) kT*i.bytes):=by have:=growslice_fits hg hb;omega
 refine⟨grownCap w (iJ+n.toNat) kT e,(olds++(Builtin.zeroCells z.cells n.toNat).toList).toArray++Builtin.zeroCells z.cells (grownCap w (iJ+n.toNat) kT e-(iJ+n.toNat)),?_,grownCap_ge _ _ _ _,?_,λk v hv=>?_⟩;by_cases Q6:n.toNat*i.size=0;have Gi:(Builtin.zeroCells z.cells n.toNat).toList=[]:=aaK (by rw[hlen,Q6]);rw[Gi];simp[Builtin.append_,cj ht,cj hk,Go.sizeOf,typeInfo,zeroValue,hi,hz,asInt,asIntOf,hw,Wi,Wj,hn,aeW,h48,Q6,Question.forced,hold,newRow,grownCap];simp[Builtin.append_,cj ht,cj hk,Go.sizeOf,typeInfo,zeroValue,hi,hz,asInt,asIntOf,hw,Wi,Wj,hn,aeW,h48,Q6,Question.forced,hold,newRow,grownCap];congr 2;apply Array.ext';simp[aeF];have h1:=grownCap_ge w (iJ+n.toNat) kT e;rw[Array.size_append,size_zeroCells,Pt];simp only[aew,abv,N2,hlen];rw[<-ae7,<-ae7];exact acw _ (by omega);have hk:=(aad.1 hv).1;rw[Array.getElem?_append,ah (by simpa using hk)];simpa using hv
theorem RU{st:ay}{bx:bG}(hI:j8 w G st)(hB:kM w G β bx){cO:Nat->Nat}(hX:∀b,cO b+ir b β bx+cR b G.ls st<=1)
  (hs:bF w G s vs){new:List (List AV)}(fm:cU w G new.flatten news)(sC:aao P t tx ty e sz bytes vx new.length news w)(jC:∀r∈new,AV.bw r=true)(iI:∀r∈new,AV.fq r=true)
  {wl aa:Nat} {st':ay} {gX:bG} {r:fL} (ha:r9 wl aa sz bytes s new st bx=some (r,st',gX)) :
  ∃v w' G',(Builtin.append_ #[t,tx] ty #[vs,vx]).run P w=.ok v w'/\jZ w G β st bx cO w' G' β st' gX r v:=by
 unfold r9 at ha
 ·split at ha
  ·rename_i dL;have Gi:∀b xs,cL b new.flatten xs=0:=λb xs=>eS b _ _ ((dm _).2 λx hx=>by
    obtain⟨r,hr,hx⟩:=aeZ.1 hx;exact(dm r).1 (iI r hr) x hx)
   have qh:new=[]->news=[]:=λh0=>by
    subst h0;have:=fm.1;simp at this;exact aaK this.symm
   have fresh:∀base,(Builtin.firstCells sz 0 (.slice base 0 0)).run P w.drew=.ok ([]:List Value).toArray w.drew->new.length*bytes<=cN->(new=[]->base.isSome=true)->
     ∃v w' G',(Builtin.append_ #[t,tx] ty #[.slice base 0 0,vx]).run P w=.ok v w'/\jZ w G β st bx cO w' G' β (st++[.rows 0 sz new]) bx (.val (.mu st.length 0)) v:=by
    intro base hf hr hbs;by_cases fy:new=[];have:=qh fy;subst this;subst fy;have:=sC.Dh rfl base 0 0 (aau _);obtain⟨G',hA⟩:=RO (w:=w) (G:=G) (β:=β) (cO:=cO) (sz:=sz) (a:=base) hI hB (hbs rfl);exact⟨_,_,_,this,hA⟩;have hn:0<new.length:=afc.2 fy;obtain⟨cap,c,e1,e2,e3,e4⟩:=sC.new base 0 0 [] hf (by simp) (by omega) (by simpa [cN] using hr);simp only[aex,adn]at e1 e2 e4;obtain⟨G',hA,_⟩:=w9 (w':=w.drew.alloc (.cells c e)) (cO:=cO) hI hB rfl rfl rfl dL jC fm (by omega) e3 e2 e4 (λb=>by rw[Gi];omega);exact⟨_,_,G',e1,hA⟩
   split at ha;split at ha;rename_i BA;cases ha;have h0:new=[]:=(by simpa using BA);have:=qh h0;subst this;subst h0;cases hs;have:=sC.Dh rfl none 0 0 (aau _);exact⟨_,_,_,this,jZ.nM hI hB (bF.af) λb=>by simp[dg,gT]⟩;split at ha;rename_i hr;cases ha;cases hs;exact fresh none (run_firstCells_none _ _ _ _ _) hr λh=>aU h (by rename_i BA;simpa using BA);cases ha;split at ha;rename_i hr;cases ha;cases hs with
   |mE a=>exact fresh (some a) (by simp[Builtin.firstCells,loadCells,loadCellsFrom]) hr λ_=>rfl
   cases ha
   ·rename_i id cQ;split at ha
    ·rename_i v ke js ja;split at ha
     ·rename_i hc;simp only[aac,aK]at hc;obtain⟨⟨⟨⟨rfl,rfl⟩,hr⟩,_⟩,_⟩:=hc;cases ha;obtain⟨loc,hl,Ch,Bo,jb⟩:=hI.loc ja;cases hs with
      |mu _ _ _ loc' hp qZ FZ he=>
      rw[hl]at qZ;cases qZ;have dG:=he (by omega);subst dG;obtain⟨F4,Wg,hfv,Ic⟩:=jb.flat;have CU:∀l':lY,l'.cQ=v+1->∀(i:Nat) l,G.ls[i]?=some l->∃Wk,(G.at id l').ls[i]?=some Wk/\l.cQ<=Wk.cQ/\(l.cQ=Wk.cQ\/l.mp=true->Wk.hd=l.hd):=λl' hv=>
       D6 hl (by omega) λh=>by rcases h with h|h<;>simp_all<;>omega
      have GN:∀l':lY,(G.at id l').ls[id]?=some l':=λl'=>by
       simp only[bD.at];rw[abp,ah rfl,ah (aad.1 hl).1]
      by_cases fy:new=[];have:=qh fy;subst this;subst fy;have hle:loc.len<=loc.cap:=by
       rcases jb.qD with⟨h0,h1,_⟩|⟨b,off,c,e',uJ,gY,gw,dM,hlen,jl,eY⟩;rw[jb.len,h1];simp;rw[jb.len];exact hlen
      have:=sC.Dh rfl loc.a loc.len loc.cap hle;have Ma:tG w G w (G.at id { loc with cQ:=v+1 }):=⟨λ_ _ h=>⟨rfl,h⟩,CU _ rfl⟩;refine⟨_,_,G.at id { loc with cQ:=v+1 },this,tO hI hB hX hl ja Ma rfl ?_ hI.nE (λb _ _=>⟨rfl,rfl⟩) (aau _) rfl rfl (.mu _ _ _ { loc with cQ:=v+1 } ⟨_,_,_,rfl⟩ (GN _) (aau _) λ_=>rfl) λb=>?_⟩;have:=(qE.jT (w':=w) (G':=G.at id { loc with cQ:=v+1 }) (show qE w G (.rows v ke js) loc from⟨Ch,Bo,jb⟩) Ma λb _=>⟨rfl,rfl⟩);obtain⟨_,_,h3⟩:=this;rw[ac5];exact⟨Ch,rfl,h3.GF,h3.Dd,h3.len,h3.size,h3.uf,h3.uI,h3.qD⟩;simp only[dg,gT,ac5];show 0+jm b loc (.rows v ke js)<=cO b+jm b loc (.rows v ke js)+_;omega;have hn:0<new.length:=afc.2 fy;have ko:=xg jb.GF dL;have tN:(js++new).flatten=js.flatten++new.flatten:=agq;have N2:loc.vals.flatten.length=js.length*ke:=(by rw[<-F4.1];exact gy js (cV.1 jb.GF));have N3:news.length=new.length*ke:=sC.newsLen;by_cases qR:js.length+new.length<=loc.cap;rcases jb.qD with⟨h0,h1,_⟩|⟨b,off,c,e',uJ,gY,gw,dM,hlen,jl,eY⟩;omega;have hle:off+js.length*ke+news.length<=c.size:=by
       rw[N3];have:(js.length+new.length)*ke<=loc.cap*ke:=acw _ qR;rw[ae7]at this;omega
      have e1:=sC.cN b off js.length loc.cap c e' gw qR dM;rw[uJ,jb.len];have aeX:=CU ⟨some ⟨b,off,none⟩,loc.cap,(js++new).length,ke,v+1,false,sv ke (js++new).length (loc.vals.flatten++news)⟩ rfl;have hW:Wr w G (w.setRow b (au c.toList (off+js.length*ke) news).toArray) ⟨(G.at id ⟨some ⟨b,off,none⟩,loc.cap,(js++new).length,ke,v+1,false,sv ke (js++new).length (loc.vals.flatten++news)⟩).ls,λb'=>if b'=b then some 0 else G.mR b'⟩ b:=
       D7 gw hle jl (adF _) (aau _) aeX
      have ig:loc.jB=some b:=(by unfold lY.jB;rw[U (by omega),uJ];rfl);refine⟨_,_,⟨(G.at id ⟨some ⟨b,off,none⟩,loc.cap,(js++new).length,ke,v+1,false,sv ke (js++new).length (loc.vals.flatten++news)⟩).ls,λb'=>if b'=b then some 0 else G.mR b'⟩,e1,?_⟩;refine tO hI hB hX hl ja hW.jT rfl ⟨rfl,rfl,oe (b:=b) (off:=off) (c:=(au c.toList (off+js.length*ke) news).toArray) (e:=e') (xs:=loc.vals.flatten++news) ko (pU jb.Dd jC) ?_ rfl rfl rfl rfl gY (setRow_heap w b c _ e' (0,0) gw) (by rw[aew,fh];simpa using dM) (by simpa using qR) (by simp) λk x hk=>?_⟩
       (hW.nE hI) (λb' _ nV=>hW.jV λe=>nV (by rw[ig,e])) (by simp) rfl rfl (.mu _ _ _ _ ⟨_,_,_,rfl⟩ (GN _) (aau _) λ_=>by simp) λb'=>?_
      rw[tN];refine(F4.mono hW.jT λb' nV=>hW.jV λe=>?_).append (fm.mono hW.jT λb' nV=>by rw[Gi]at nV;omega);subst e;rw[Wg]at nV;have h1:=hX b';have h2:=n6 b' G.ls st id loc _ hl ja;simp only[jm,ig,aQ]at h2;omega;rw[tM gw hle];by_cases JW:k<loc.vals.flatten.length;rw[aal JW]at hk;rw[U (by omega)];exact Ic b off eY k x hk;rw[aar (by omega)]at hk;have bC:=(aad.1 hk).1;rw[ah (by omega),show off+k-(off+js.length*ke)=k-loc.vals.flatten.length by omega];exact hk;have JX:(⟨some ⟨b,off,none⟩,loc.cap,(js++new).length,ke,v+1,false,sv ke (js++new).length (loc.vals.flatten++news)⟩:lY).jB=loc.jB:=by
       rw[ig];unfold lY.jB;rw[U (show ¬loc.cap=0 by omega)];rfl
      simp only[dg,gT,jm];rw[JX,sw b' (js++new) _ (cV.1 ko) (by rw[tN,abv,abv,F4.1,fm.1]),tN,gZ b' _ _ _ _ F4.1,Gi,Wg];omega;have hf:(Builtin.firstCells ke loc.len (.slice loc.a loc.len loc.cap)).run P w.drew=.ok loc.vals.flatten.toArray w.drew:=by
       rcases jb.qD with⟨h0,h1,_⟩|⟨b,off,c,e',uJ,gY,gw,dM,hlen,jl,eY⟩;have:loc.vals=[]:=by
        have:=jb.uf;rw[h1]at this;exact aaK (by simpa using this)
       rw[jb.len,h1,this];cases loc.a<;>simp[Builtin.firstCells,loadCells,loadCellsFrom];rw[uJ,jb.len];exact run_firstCells_some w.drew ke js.length ⟨b,off,none⟩ js.length loc.cap _ N2 (λj v hj=>by rw[mj,GM];exact Ic b off eY j v hj)
      obtain⟨PA,c,e1,e2,e3,e4⟩:=sC.new loc.a loc.len loc.cap loc.vals.flatten hf (by rw[N2,jb.len]) (by rw[jb.len];omega) (by rw[jb.len];exact hr);rw[jb.len,<-abv]at e2;have hcp:0<PA:=(by rw[abv]at e2;omega);have hw:(w.drew.alloc (.cells c e)).heap=w.heap.push (.cells c e):=rfl;have hlN:(G.new w.heap.size (some 0) []).ls[id]?=some loc:=(by simp only[bD.new,ac5];exact hl);have Ma:tG w G (w.drew.alloc (.cells c e)) ((G.new w.heap.size (some 0) []).at id ⟨some ⟨w.heap.size,0,none⟩,PA,(js++new).length,ke,v+1,false,sv ke (js++new).length (loc.vals.flatten++news)⟩):=
       (tJ hw (some 0) []).trans (L7 hlN (by simp;omega) λh=>by rcases h with h|h<;>simp_all<;>omega)
      refine⟨_,_,_,e1,tO hI hB hX hl ja Ma (loc':=⟨some ⟨w.heap.size,0,none⟩,PA,(js++new).length,ke,v+1,false,sv ke (js++new).length (loc.vals.flatten++news)⟩) (by simp only[bD.at,bD.new,ac5]) ⟨rfl,rfl,oe (b:=w.heap.size) (off:=0) (c:=c) (e:=e) (xs:=loc.vals.flatten++news) ko (pU jb.Dd jC) ?_ rfl rfl rfl rfl hcp (sx hw) (by simpa using e3) e2 (by simp[bD.at,bD.new]) λk x hk=>?_⟩
       (λb p hp=>?_) (λb hb _=>?_) (by rw[hw];simp) rfl rfl (.mu _ _ _ _ ⟨_,_,_,rfl⟩ (by simp only[bD.at];rw[abp,ah rfl,ah (aad.1 hlN).1]) (aau _) λ_=>by simp[jb.len]) λb'=>?_⟩
      rw[tN];exact(F4.mono Ma λb' nV=>iV (G:=G) hw (some 0) [] (F4.held nV)).append (fm.mono Ma λb' nV=>by rw[Gi]at nV;omega);rw[aex];exact D3 hw (e4 k x hk);simp only[bD.at,bD.new]at hp;rw[hw,Array.size_push];split at hp;omega;have:=hI.nE b p hp;omega;exact iV (G:=G) hw (some 0) [] hb;have JX:(⟨some ⟨w.heap.size,0,none⟩,PA,(js++new).length,ke,v+1,false,sv ke (js++new).length (loc.vals.flatten++news)⟩:lY).jB=some w.heap.size:=by
       unfold lY.jB;rw[U (show ¬PA=0 by omega)];rfl
      simp only[dg,gT,jm];rw[JX,sw b' (js++new) _ (cV.1 ko) (by rw[tN,abv,abv,F4.1,fm.1]),tN,gZ b' _ _ _ _ F4.1,Gi,Wg];simp only[bh];by_cases hb:w.heap.size=b';subst hb;rw[ah (aau _)];simp;omega;rw[U hb];omega
     cases ha
    cases ha
   cases ha
  cases ha
theorem PC(h:L8 P t tx e sz bytes i z){st:ay}{bx:bG}(hI:j8 w G st)(hB:kM w G β bx){cO:Nat->Nat}(hX:∀b,cO b+ir b β bx+cR b G.ls st<=1)
  {x:AV}(hs:bF w G s vs)(hx:bF w G x vx){wl aa:Nat}{st':ay}{gX:bG}{r:fL}(ha:bn wl aa (.gu sz bytes) [.val s,.val x] st bx=some (r,st',gX)) :
  ∃v w' G',(Builtin.append_ #[t,tx] ty #[vs,vx]).run P w=.ok v w'/\jZ w G β st bx cO w' G' β st' gX r v:=by
 simp only[bn]at ha;split at ha;cases ha;rename_i new uM;by_cases dL:cn sz new=true;obtain⟨news,fm,sC,jC,iI,_⟩:=Bz hI hx uM dL h.kind;exact RU hI hB hX hs fm (RT h sC) jC iI ha;unfold r9 at ha;rw[U dL]at ha;cases ha
theorem PI(ht:P.underlying t=some (.slice e))(hk:∃k,P.underlying tx=some (.int k))(dM:di P e sz=true)(We:pT P e bytes=true){zero:List AV}(hz:o4 P e zero=true)(pos:0<sz)(RL:0<bytes)
  {st:ay}{bx:bG}(hI:j8 w G st)(hB:kM w G β bx){cO:Nat->Nat}(hX:∀b,cO b+ir b β bx+cR b G.ls st<=1)
  {x:AV}  (hs:bF w G s vs) (hx:bF w G x vx) {wl aa:Nat} {st':ay} {gX:bG} {r:fL} (ha:bn wl aa (.pQ sz bytes zero) [.val s,.val x] st bx=some (r,st',gX)) :
  ∃v w' G',(Builtin.append_ #[t,tx] ty #[vs,vx]).run P w=.ok v w'/\jZ w G β st bx cO w' G' β st' gX r v:=by
 simp only[bn]at ha;split at ha;rename_i n heq;simp only[List.cons.injEq,fL.val.injEq,and_true]at heq;obtain⟨rfl,rfl⟩:=heq;split at ha;rename_i hc;obtain⟨h0,hr,RI,qf⟩:=hc;obtain⟨i,z,hi,RC,oL,JM,LH⟩:=mG hz w G;obtain⟨i',rN,F0,_⟩:=me dM;rw[hi]at rN;cases rN;have hb:i.bytes=bytes:=by simpa [pT,hi] using We
 have Pt:z.cells.size=sz:=by rw[<-RI,oL.1];simp
 have hrz:=By (n:=n.toNat) oL RI pos;rw[<-Ib z.cells n.toNat sz Pt]at hrz;have hR:=L9 (ty:=ty) ht hk hi RC F0 hb Pt pos RL h0 (by simpa [cN] using hr) w (hrz.V2 (cU.Gh λr hr=>by rw[abt hr];exact LH));cases hx;rw[show n.toNat=(List.replicate n.toNat zero).length by simp]at hR;exact RU hI hB hX hs hrz (by simpa using hR) (λr hr=>by rw[abt hr];exact LH) (λr hr=>by rw[abt hr];exact(dm zero).2 λc hc=>(JM c hc).1) ha;cases ha;cases ha
end Ax
namespace Ax
open Go
variable {P:Program}{w w':World}{G G':bD}{β iM:List nD}{ρ:Operand->Value}{o:Oper}
variable{v:Value}{as:List AV}{n:Nat}{t:TypeId}{α:Type}
theorem Ag{st:ay}(hI:j8 w G st){id cQ i k sz:Nat}{rows:List (List AV)}{r:List AV}(hp:bF w G (.ptr id cQ i k) v)(ja:st[id]?=some (.rows cQ sz rows))(hr:rows[i]?=some r) :
  ∃loc b off c e xs,G.ls[id]?=some loc/\loc.mp=false/\loc.cQ=cQ/\wZ w G sz rows loc/\v=.pointer (some ⟨b,off+(i*sz+k),none⟩)/\loc.a=some ⟨b,off,none⟩/\0<loc.cap/\loc.jB=some b/\
   w.heap[b]?=some (.cells c e (0,0))/\off+loc.cap*sz<=c.size/\rows.length<=loc.cap/\G.mR b=some 0/\loc.vals[i]?=some xs/\cU w G r xs/\
   ∀(i:Nat) xs (j:Nat) x,loc.vals[i]?=some xs->xs[j]?=some x->w.cell? ⟨b,off+(i*sz+j),none⟩=some x:=by
 obtain⟨loc,hl,Ch,Bo,jb⟩:=hI.loc ja;cases hp with
 |ptr _ _ _ _ _ loc' hpp qZ hv he=>
 rw[hl]at qZ;cases qZ;obtain⟨a,uJ,rfl⟩:=he Bo.symm;rcases jb.qD with⟨_,qh,_⟩|⟨b,off,c,e',L2,gY,gw,hle,hlen,jl,eY⟩;subst qh;simp at hr;rw[L2]at uJ;cases uJ;have hi:i<loc.vals.length:=by rw[jb.uf];exact(aad.1 hr).1
 have hv:=aag hi;exact⟨loc,b,off,c,e',loc.vals[i],hl,Ch,Bo,jb,by rw[jb.size],L2,gY,by unfold lY.jB;rw[U (by omega),L2];rfl,gw,hle,hlen,jl,hv,jb.uI i r _ hr hv,eY⟩
theorem kC{vs:List AV}(h:AV.bw as=true)(k:AV.bw vs=true)(hn:n+vs.length<=as.length):AV.bw (au as n vs)=true:=by
 rw[kB _ _ _ hn];simp only[AV.bw,aaB,List.mem_append]at *;intro x hx;rcases hx with (hx|hx)|hx;exact h x (adz hx);exact k x hx;exact h x (adA hx)
theorem Wl{x y:Operand}(ho:o.op=.store t x y)(hn:di P t n=true){st:ay}{bx:bG}(hI:j8 w G st)(hB:kM w G β bx){cO:Nat->Nat}(hX:∀b,cO b+ir b β bx+cR b G.ls st<=1)
  {p v:AV}(hp:bF w G p (ρ x))(hv:bF w G v (ρ y))(lz:∀b,gT b v (ρ y)<=cO b){wl aa:Nat}{st':ay}{gX:bG}{r:fL}(ha:bn wl aa (.store n) [.val p,.val v] st bx=some (r,st',gX)) :
  ∃w' G',(execOp ρ o).run P w=.ok .skip w'/\jZ w G β st bx cO w' G' β st' gX r undef:=by
 simp only[bn]at ha;split at ha;rename_i kP;simp only[aac,aK]at kP;obtain⟨Wm,Gj⟩:=kP;split at ha;rename_i qQ hw;cases ha;unfold fo at hw;split at hw;rename_i id cQ i k;split at hw;rename_i ve sz rows ja;split at hw;rename_i H7;simp only[aac,aK]at H7;obtain⟨rfl,_⟩:=H7;split at hw;rename_i aF dJ;split at hw;rename_i dL;cases hw;obtain⟨loc,b,off,c,e,xs,hl,Ch,Bo,jb,Mb,uJ,gY,ig,gw,hle,hlen,jl,Mc,mT,eY⟩:=Ag hI hp ja dJ;obtain⟨F5,NT⟩:=hv.cells;have qi:aF.length=sz:=cV.1 jb.GF aF (dR dJ);have hxl:xs.length=sz:=by rw[<-mT.1];exact qi
 have hi:i<rows.length:=(aad.1 dJ).1;have Zk:(ρ y).cells.toList.length=v.cells.length:=F5.1.symm;have RJ:=F5.V2 Gj;have JY:off+(i*sz+k)+(ρ y).cells.toList.length<=c.size:=by
  have h1:(i+1)*sz<=loc.cap*sz:=acw _ (by omega);rw[aeq]at h1;omega
 have CW:=iY (P:=P) b (off+(i*sz+k)) e (ρ y).cells.toList c w gw JY RJ;have CU:=D6 (loc':={ loc with vals:=loc.vals.set i (au xs k (ρ y).cells.toList) }) hl (aau _) λ_=>rfl;have hW:Wr w G (w.setRow b (au c.toList (off+(i*sz+k)) (ρ y).cells.toList).toArray) ⟨(G.at id { loc with vals:=loc.vals.set i (au xs k (ρ y).cells.toList) }).ls,λb'=>if b'=b then some 0 else G.mR b'⟩ b:=
  D7 gw JY jl (adF _) (aau _) CU
 have lU:cO b=0/\g8 b rows loc.vals=0:=by
  have h1:=hX b;have h2:=n6 b G.ls st id loc _ hl ja;simp only[jm,ig,aQ]at h2;omega
 refine⟨_,⟨(G.at id { loc with vals:=loc.vals.set i (au xs k (ρ y).cells.toList) }).ls,λb'=>if b'=b then some 0 else G.mR b'⟩,?_,tO hI hB hX hl ja hW.jT rfl ⟨Ch,Bo,?_⟩ (hW.nE hI) (λb' _ nV=>hW.jV λe=>nV (by rw[ig,e])) (by simp) rfl rfl trivial λb'=>?_⟩;have dM:(ρ y).cells.size=n:=by rw[<-Wm,F5.1];simp
 simp only[execOp,ho,Mb,cg,Instr.storeAt,Instr.sureAddr,Sem.run_pure,cZ,storeVar,fF hn,dM,ne_eq,not_true_eq_false,aS,CW];have aeY:cU (w.setRow b (au c.toList (off+(i*sz+k)) (ρ y).cells.toList).toArray) ⟨(G.at id { loc with vals:=loc.vals.set i (au xs k (ρ y).cells.toList) }).ls,λb'=>if b'=b then some 0 else G.mR b'⟩ v.cells (ρ y).cells.toList:=
  F5.mono hW.jT λb' nV=>hW.jV λe=>by
   subst e;rw[NT]at nV;have:=lz b';omega
 have hold:∀(i':Nat) r' LM,rows[i']?=some r'->loc.vals[i']?=some LM->cU (w.setRow b (au c.toList (off+(i*sz+k)) (ρ y).cells.toList).toArray) ⟨(G.at id { loc with vals:=loc.vals.set i (au xs k (ρ y).cells.toList) }).ls,λb'=>if b'=b then some 0 else G.mR b'⟩ r' LM:=λi' r' LM h1 h2=>
  (jb.uI i' r' LM h1 h2).mono hW.jT λb' nV=>hW.jV λe=>by
   subst e;have:=yd b' rows loc.vals i' r' LM h1 h2;omega
 refine⟨cV.2 λr' yP=>?_,λr' yP=>?_,by simp[jb.len],jb.size,by simp[jb.uf],λi' r' LM h1 h2=>?_,.inr ⟨b,off,_,e,uJ,gY,setRow_heap w b c _ e (0,0) gw,by rw[aew,fh];simpa using hle,by simpa using hlen,by simp,λi' LM j z h1 h2=>?_⟩⟩;rcases acG yP with h|h;exact cV.1 jb.GF r' h;rw[h,fh];exact qi;rcases acG yP with h|h;exact jb.Dd r' h;rw[h];exact kC (jb.Dd aF (dR dJ)) Gj dL;simp only at h2;rw[abp]at h1 h2;by_cases Md:i=i';subst Md;rw[ah rfl,ah hi]at h1;rw[ah rfl,ah (aad.1 Mc).1]at h2;cases h1;cases h2;exact(hold i aF xs dJ Mc).au aeY dL;rw[U Md]at h1 h2;exact hold i' r' LM h1 h2;simp only at h1;rw[tM gw JY];rw[abp]at h1;by_cases Md:i=i';subst Md;rw[ah rfl]at h1;split at h1;cases h1;rw[jU _ _ _ _ (by rw[Zk,hxl,<-qi];exact dL)]at h2;split at h2;rename_i hj;rw[ah (by omega),show off+(i*sz+j)-(off+(i*sz+k))=j-k by omega];exact h2;rename_i hj;rw[U (by omega)];exact eY i xs j z Mc h2;cases h1;rw[U Md]at h1;have hj:j<sz:=by
  have h3:=(aad.1 h2).1;have h4:=jb.flat.2.2.1 LM (dR h1);omega
 have:¬(off+(i*sz+k)<=off+(i'*sz+j)/\off+(i'*sz+j)<off+(i*sz+k)+(ρ y).cells.toList.length):=by
  rcases Nat.lt_or_gt_of_ne Md with bC|bC;have h5:(i+1)*sz<=i'*sz:=acw _ bC;rw[aeq]at h5;omega;have h5:(i'+1)*sz<=i*sz:=acw _ bC;rw[aeq]at h5;omega
 rw[U this];exact eY i' LM j z h1 h2;have h1:=uK b' rows loc.vals i aF xs (au aF k v.cells) (au xs k (ρ y).cells.toList) dJ Mc;have h2:=sj b' aF v.cells xs (ρ y).cells.toList k mT.1 F5.1 dL;have h3:=lz b';rw[NT]at h2;have hb:(if ({ loc with vals:=loc.vals.set i (au xs k (ρ y).cells.toList) }:lY).jB=some b' then 1 else 0)=(if loc.jB=some b' then 1 else 0):=rfl;simp only[dg,jm];rw[hb];omega;cases hw;cases hw;cases hw;cases hw;cases hw;cases ha;cases ha
theorem bF.jX{a:AV}(h:bF w G a v):bF w G a.jX v:=by
 cases h with
 |k8 sz rows a cap lI gY dL iI qf x7 hc hr jl ig=>exact .gone _ rfl|raw sz rows a cap lI gY dL iI qf x7 hc hr jl ig=>exact .gone _ rfl|agg cs vs hl h=>exact .agg cs vs hl h|fK cs vs hl h=>exact .fK cs vs hl h|undef=>exact .undef|gone v h=>exact .gone v h|bool b=>exact .bool b|int k n=>exact .int k n|str l s h=>exact .str l s h|dV=>exact .dV|af=>exact .af|hY=>exact .hY|jz=>exact .jz|kO=>exact .kO|eE sz rows a cap lI gY dL iI qf x7 hc hr=>exact .eE sz rows a cap lI gY dL iI qf x7 hc hr|mE a=>exact .mE a|mu id cQ v loc hp hl hv he=>exact .mu id cQ v loc hp hl hv he|ptr id cQ i k v loc hp hl hv he=>exact .ptr id cQ i k v loc hp hl hv he|qP sz rows i k a cap hl=>exact .qP sz rows i k a cap hl|map id loc b hl hm hb=>exact .map id loc b hl hm hb|fn f first l7 vf vc hl hm hn h k=>exact .fn f first l7 vf vc hl hm hn h k
theorem RV(b:Nat)(a:AV)(v:Value)(h:a.dj=true):gT b a.jX v=0:=by
 refine fV b _ _ ?_;cases a<;>simp_all [AV.jX,AV.cS,AV.dj]
theorem JZ(a:AV)(h:a.dj=true):a.jX.dj=true:=by
 cases a<;>simp_all [AV.jX,AV.dj]
theorem cU.jX{as:List AV}{xs:List Value}(h:cU w G as xs):cU w G (as.map AV.jX) xs:=by
 refine⟨by simp[h.1],λi c v h1 h2=>?_⟩;simp only[aei,acs]at h1;obtain⟨c',h1,rfl⟩:=h1;exact(h.2 i c' v h1 h2).jX
theorem GO(b:Nat):∀(as:List AV)(xs:List Value),AV.bw as=true->cL b (as.map AV.jX) xs=0
 |[],xs,_=>by simp[cL]|a::as,[],_=>by simp[cL]|a::as,x::xs,h=>by
  simp only[AV.bw,agm,aac]at h;have:=GO b as xs h.2;simp only[abn,cL,RV b a x h.1,this]
theorem Gk(h:AV.bw as=true):AV.bw (as.map AV.jX)=true:=by
 simp only[AV.bw,aaB,ab9]at *;rintro x ⟨y,hy,rfl⟩;exact JZ y (h y hy)
theorem Ie(h:AV.bw as=true)(k n:Nat):AV.bw ((as.drop k).take n)=true:=by
 simp only[AV.bw,aaB]at *;intro x hx;exact h x (adA (adz hx))
theorem vC(xs:List α)(k n:Nat)(h:k+n<=xs.length):au xs k ((xs.drop k).take n)=xs:=by
 rw[kB _ _ _ (by simp;omega)];have:((xs.drop k).take n).length=n:=by simp;omega
 rw[this,aeF,<-adC,aey,aey]
theorem J0{r cs:List AV}{xs:List Value}{k:Nat}(hr:cU w G r xs)(hc:cut r k n=some cs)(jC:AV.bw r=true) :
  cU w G (au r k (cs.map AV.jX)) xs/\AV.bw (au r k (cs.map AV.jX))=true/\∀b,cL b (au r k (cs.map AV.jX)) xs+cL b cs ((xs.drop k).take n)=cL b r xs:=by
 obtain⟨rfl,hle,hlen⟩:=sq hc;have GI:=Ie jC k n;have RW:k+n<=xs.length:=by rw[<-hr.1];exact hle
 have Zl:=vC xs k n RW;refine⟨?_,kC jC (Gk GI) (by rw[ac7];omega),λb=>?_⟩;have:=hr.au ((hr.drop k).take n).jX (n:=k) (by rw[ac7];omega);rw[Zl]at this;exact this;have h1:=mh b k r xs hr.1;have h2:=mh b n (r.drop k) (xs.drop k) (by simp[hr.1]);have h3:=GO b ((r.drop k).take n) ((xs.drop k).take n) GI;have e:cL b (au r k (((r.drop k).take n).map AV.jX)) xs=cL b (au r k (((r.drop k).take n).map AV.jX)) (au xs k ((xs.drop k).take n)):=by rw[Zl]
 rw[e,kB _ _ _ (by rw[ac7];omega),kB _ _ _ (by simp;omega),gZ b _ _ _ _ (by have:=hr.1;simp;omega),gZ b _ _ _ _ (by have:=hr.1;simp;omega),h3];have l1:(((r.drop k).take n).map AV.jX).length=n:=by rw[ac7];omega
 have l2:((xs.drop k).take n).length=n:=by simp;omega
 rw[l1,l2];rw[adC,adC]at h2;omega
theorem gd(l:List α)(i:Nat)(x:α)(h:l[i]?=some x):l.set i x=l:=by
 apply aeE;intro j;rw[abp];split;rename_i e;subst e;split;exact h.symm;rename_i hn;exact aU (aad.1 h).1 hn
 rfl
theorem Me{x:Operand}{agg:Bool}(ho:o.op=.load t x)(hn:di P t n=true)(ug:nY P t=some agg)(lU:agg=false->n=1){st:ay}{bx:bG}(hI:j8 w G st)(hB:kM w G β bx){cO:Nat->Nat}(hX:∀b,cO b+ir b β bx+cR b G.ls st<=1)
  {p:AV}(hp:bF w G p (ρ x)){wl aa:Nat}{st':ay}{gX:bG}{r:fL}(ha:bn wl aa (.load agg n true) [.val p] st bx=some (r,st',gX)) :
  ∃v,(execOp ρ o).run P w=.ok (.value v) w/\jZ w G β st bx cO w G β st' gX r v:=by
 simp only[bn,aQ]at ha;split at ha;rename_i cs D8;split at ha;rename_i qQ v hw hv;cases ha;unfold fo at hw;split at hw;rename_i id cQ i k;split at hw;rename_i ve sz rows ja;split at hw;rename_i H7;simp only[aac,aK]at H7;obtain⟨rfl,_⟩:=H7;split at hw;rename_i aF dJ;split at hw;rename_i dL;cases hw;simp only[iT,ja,dJ,aQ]at D8;obtain⟨loc,b,off,c,e,xs,hl,Ch,Bo,jb,Mb,uJ,gY,ig,gw,hle,hlen,jl,Mc,mT,eY⟩:=Ag hI hp ja dJ;obtain⟨t1,t2,t3⟩:=J0 mT D8 (jb.Dd aF (dR dJ));obtain⟨lz,Mf,F6⟩:=sq D8;have hxl:xs.length=aF.length:=mT.1.symm;have N4:((xs.drop k).take n).length=n:=by simp;omega
 have fm:cU w G cs ((xs.drop k).take n):=by rw[lz];exact(mT.drop k).take n
 obtain⟨u,h1,h2,h3⟩:=H8 ho hn ug lU Mb N4 fm (λj z hz=>by
  rw[acv]at hz;split at hz;rw[adw]at hz;rw[show off+(i*sz+k)+j=off+(i*sz+(k+j)) by omega];exact eY i xs (k+j) z Mc hz;cases hz) hv
 refine⟨u,h1,tO hI hB hX hl ja (tG.refl w G) (gd _ _ _ hl).symm ⟨Ch,Bo,?_⟩ hI.nE (λb _ _=>⟨rfl,rfl⟩) (aau _) rfl rfl h2 λb'=>?_⟩;refine⟨cV.2 λr' yP=>?_,λr' yP=>?_,by simp[jb.len],jb.size,by simp[jb.uf],λi' r' LM h1 h2=>?_,.inr ⟨b,off,c,e,uJ,gY,gw,hle,by simpa using hlen,jl,eY⟩⟩;rcases acG yP with h|h;exact cV.1 jb.GF r' h;rw[h,fh];exact cV.1 jb.GF aF (dR dJ);rcases acG yP with h|h;exact jb.Dd r' h;rw[h];exact t2;rw[abp]at h1;by_cases Md:i=i';subst Md;rw[ah rfl]at h1;split at h1;cases h1;rw[Mc]at h2;cases h2;exact t1;cases h1;rw[U Md]at h1;exact jb.uI i' r' LM h1 h2;have h4:=uK b' rows loc.vals i aF xs (au aF k (cs.map AV.jX)) xs dJ Mc;rw[gd _ _ _ Mc]at h4;have h5:=t3 b';have h6:=h3 b';simp only[dg,jm];omega;cases hw;cases hw;cases hw;cases hw;cases hw;cases ha;cases ha
end Ax
namespace Ax
open Go
variable {P:Program}{w w':World}{G G':bD}{β iM:List nD}{ρ:Operand->Value}{o:Oper}
def fW(nb:Option Nat)(β iM:List nD):Prop:=∀(j:Nat) g,β[j]?=some g->∃g',iM[j]?=some g'/\(nb≠some j->g'.jB=g.jB)
theorem fW.refl(nb:Option Nat)(β:List nD):fW nb β β:=λ_ g h=>⟨g,h,λ_=>rfl⟩
variable{j:Nat}{aF:List AV}{v:Value}{t:TypeId}{x:Operand}
theorem fW.set{nb:Option Nat}{g g':nD}(hg:β[j]?=some g)(h:nb≠some j->g'.jB=g.jB):fW nb β (β.set j g'):=by
 intro i x hx;by_cases hi:j=i;subst hi;rw[hg]at hx;cases hx;exact⟨g',by rw[abp,ah rfl,ah (aad.1 hg).1],h⟩;exact⟨x,by rw[abp,U hi];exact hx,λ_=>rfl⟩
theorem D9{st:ay}{bx:bG}{cO:Nat->Nat}(hI:j8 w G st)(hB:kM w G β bx)(hX:∀b,cO b+ir b β bx+cR b G.ls st<=1){g g':nD}{row':List AV}{e:fL}
  (hg:β[j]?=some g)(hr:bx[j]?=some aF)(ig:g'.jB=g.jB)(hs:tG w G w' G')(RK:G'.ls=G.ls)(uM:Ae w' G' row' g')(ht:∀b p,G'.mR b=some p->b<w'.heap.size)
  (JV:∀b,b<w.heap.size->g.jB≠some b->fG w G w' G' b) (RN:w.heap.size<=w'.heap.size) (LI:w'.os=w.os) (yO:w'.output=w.output) (fm:lf w' G' (β.set j g') e v)
  (hc:∀b,dg b e v+cL b row' g'.vals<=cO b+cL b aF g.vals):jZ w G β st bx cO w' G' (β.set j g') st (bx.set j row') e v:=by
 have key:∀b,g.jB=some b->1<=(if g.jB=some b then 1 else 0)+cL b aF g.vals:=λb h=>by rw[ah h];omega
 refine⟨hs,xd hI hs RK (λb hb=>JV b (hI.held hb) λh=>?_) ht,⟨by simp[hB.len],λi r x h1 h2=>?_⟩,fm,λb=>?_,λb hb bC=>JV b bC λh=>?_,RN,LI,yO⟩;have h1:=key b h;have h2:=n7 b β bx j g aF hg hr;have:=hX b;omega;rw[abp]at h1 h2;by_cases CT:j=i;subst CT;rw[ah rfl,ah (aad.1 hr).1]at h1;rw[ah rfl,ah (aad.1 hg).1]at h2;cases h1;cases h2;exact uM;rw[U CT]at h1 h2;refine(hB.box i r x h1 h2).jT hs λb hb=>JV b (hB.held (b:=b) (by have:=n7 b β bx i x r h2 h1;omega)) λh=>?_;have h3:=key b h;have h4:=JR b β bx i j x r g aF (λe=>CT e.symm) h2 h1 hg hr;have:=hX b;omega;have h1:=Ad b β bx j g aF g' row' hg hr;have h2:=hc b;rw[RK];rw[ig]at h1;omega;have h1:=key b h;have h2:=n7 b β bx j g aF hg hr;omega
theorem Ig{bx:bG}(hB:kM w G β bx){k:Nat}(hp:lf w G β (.fp j k) v)(hr:bx[j]?=some aF) :
  ∃g b c e,β[j]?=some g/\g.jB=some b/\v=.pointer (some ⟨b,k,none⟩)/\Ae w G aF g/\w.heap[b]?=some (.cells c e (0,0))/\aF.length<=c.size/\G.mR b=some 0/\∀(k:Nat) x,g.vals[k]?=some x->w.cell? ⟨b,k,none⟩=some x:=by
 obtain⟨g,b,h1,h2,h3⟩:=hp;have hb:=hB.box j aF g hr h1;rcases hb.qD with⟨h0,_⟩|⟨b',c,e,h4,h5,h6,h7,h8⟩;rw[h0]at h2;cases h2;rw[h2]at h4;cases h4;exact⟨g,b,c,e,h1,h2,h3,hb,h5,h6,h7,h8⟩
theorem RX{y:Operand}{j0 n:Nat}(ho:o.op=.store t x y)(hn:di P t n=true){st:ay}{bx:bG}(hI:j8 w G st)(hB:kM w G β bx){cO:Nat->Nat}(hX:∀b,cO b+ir b β bx+cR b G.ls st<=1)
  {p v:fL}(hp:lf w G β p (ρ x))(hv:lf w G β v (ρ y))(lz:∀b,dg b v (ρ y)<=cO b){wl aa:Nat}{st':ay}{gX:bG}{r:fL}(ha:bn wl aa (.j9 j0 n) [p,v] st bx=some (r,st',gX)) :
  ∃w' G' iM,(execOp ρ o).run P w=.ok .skip w'/\jZ w G β st bx cO w' G' iM st' gX r undef/\fW none β iM:=by
 unfold bn at ha;simp only at ha;split at ha;rename_i j k v heq;cases heq;split at ha;rename_i kP;simp only[aac,aK]at kP;obtain⟨⟨rfl,Wm⟩,Gj⟩:=kP;split at ha;rename_i aF hr;split at ha;rename_i dL;cases ha;obtain⟨g,b,c,e,hg,ig,Mb,wM,gw,hle,jl,eY⟩:=Ig hB hp hr;obtain⟨F5,NT⟩:=bF.cells hv;have Zk:(ρ y).cells.toList.length=n:=by rw[<-Wm];exact F5.1.symm
 have JY:k+(ρ y).cells.toList.length<=c.size:=by omega
 have CW:=iY (P:=P) b k e (ρ y).cells.toList c w gw JY (F5.V2 Gj);have hW:Wr w G (w.setRow b (au c.toList k (ρ y).cells.toList).toArray) ⟨G.ls,λb'=>if b'=b then some 0 else G.mR b'⟩ b:=D7 gw JY jl (adF _) (aau _) (D5 G);have lU:cO b=0/\cL b aF g.vals=0:=by
  have h1:=hX b;have h2:=n7 b β bx j0 g aF hg hr;rw[ah ig]at h2;omega
 refine⟨_,⟨G.ls,λb'=>if b'=b then some 0 else G.mR b'⟩,β.set j0 ⟨g.jB,au g.vals k (ρ y).cells.toList⟩,?_,D9 hI hB hX hg hr rfl hW.jT rfl ⟨?_,kC wM.Dd Gj (by rw[Wm];exact dL),.inr ⟨b,_,e,ig,setRow_heap w b c _ e (0,0) gw,?_,by simp,λi z hz=>?_⟩⟩ (hW.nE hI) (λb' _ nV=>hW.jV λe=>nV (by rw[ig,e])) (by simp) rfl rfl trivial λb'=>?_,fW.set hg λ_=>rfl⟩;have dM:(ρ y).cells.size=n:=by simpa using Zk
 simp only[execOp,ho,Mb,cg,Instr.storeAt,Instr.sureAddr,Sem.run_pure,cZ,storeVar,fF hn,dM,ne_eq,not_true_eq_false,aS,CW];refine(wM.vm.mono hW.jT λb' nV=>hW.jV λe=>?_).au (F5.mono hW.jT λb' nV=>hW.jV λe=>?_) (by rw[Wm];exact dL);subst e;omega;subst e;rw[NT]at nV;have:=lz b';simp only[dg]at this;omega;rw[fh,aew,fh];simpa using hle;rw[tM gw JY];simp only at hz;rw[jU _ _ _ _ (by rw[Zk];rw[<-wM.vm.1];exact dL)]at hz;split at hz;rename_i hi;rw[ah hi];exact hz;rename_i hi;rw[U hi];exact eY i z hz;have h2:=sj b' aF v.cells g.vals (ρ y).cells.toList k wM.vm.1 F5.1 (by rw[Wm];exact dL);have h3:=lz b';rw[NT]at h2;simp only[dg]at h3 ⊢;omega;cases ha;cases ha;cases ha;cases ha
theorem Wn{j0 n:Nat}{agg take:Bool}(ho:o.op=.load t x)(hn:di P t n=true)(ug:nY P t=some agg)(lU:agg=false->n=1){st:ay}{bx:bG}(hI:j8 w G st)(hB:kM w G β bx){cO:Nat->Nat}(hX:∀b,cO b+ir b β bx+cR b G.ls st<=1)
  {p:fL}(hp:lf w G β p (ρ x)){wl aa:Nat}{st':ay}{gX:bG}{r:fL}(ha:bn wl aa (.gW j0 agg n take) [p] st bx=some (r,st',gX)) :
  ∃v,(execOp ρ o).run P w=.ok (.value v) w/\jZ w G β st bx cO w G β st' gX r v:=by
 unfold bn at ha;simp only at ha;split at ha;rename_i j k heq;cases heq;split at ha;rename_i hj;subst hj;split at ha;rename_i aF hr;split at ha;rename_i cs RZ;obtain⟨g,b,c,e,hg,ig,Mb,wM,gw,hle,jl,eY⟩:=Ig hB hp hr;obtain⟨lz,Mf,F6⟩:=sq RZ;have hxl:g.vals.length=aF.length:=wM.vm.1.symm;have N4:((g.vals.drop k).take n).length=n:=by simp;omega
 have fm:cU w G cs ((g.vals.drop k).take n):=by rw[lz];exact(wM.vm.drop k).take n
 have oX:∀(j:Nat) y,((g.vals.drop k).take n)[j]?=some y->w.cell? ⟨b,k+j,none⟩=some y:=λj z hz=>by
  rw[acv]at hz;split at hz;rw[adw]at hz;exact eY _ z hz;cases hz
 split at ha;split at ha;rename_i v hv;cases ha;obtain⟨u,h1,h2,h3⟩:=H8 ho hn ug lU Mb N4 fm oX hv;obtain⟨t1,t2,t3⟩:=J0 wM.vm RZ wM.Dd;have:=D9 (e:=.val v) (v:=u) (g':=g) (row':=au aF k (cs.map AV.jX)) hI hB hX hg hr rfl (tG.refl w G) rfl ⟨t1,t2,.inr ⟨b,c,e,ig,gw,by rw[fh];exact hle,jl,eY⟩⟩ hI.nE (λb _ _=>⟨rfl,rfl⟩) (aau _) rfl rfl h2 λb'=>by
  have h4:=t3 b';have h5:=h3 b';simp only[dg];omega
 rw[gd _ _ _ hg]at this;exact⟨u,h1,this⟩;cases ha;split at ha;rename_i v hv;cases ha;obtain⟨u,h1,h2,h3⟩:=H8 ho hn ug lU Mb N4 fm.ai oX hv;refine⟨u,h1,jZ.nM hI hB h2 λd=>?_⟩;simp only[dg,h3 d];rw[eS d _ _ (iD cs)];omega;cases ha;cases ha;cases ha;cases ha;cases ha
theorem Ea(b:Nat):∀(n:Nat)(rs:List (List AV))(xs:List (List Value)),g8 b (rs.take n) (xs.take n)<=g8 b rs xs
 |0,rs,xs=>by simp[g8]|n+1,[],xs=>by simp[g8]|n+1,r::rs,[]=>by simp[g8]|n+1,r::rs,x::xs=>by
  have:=Ea b n rs xs;simp only[List.take_succ_cons,g8];omega
theorem R7{e:TypeId}{hi:Operand}{sz:Nat}(ho:o.op=.slice t x none (some hi) none)(hu:P.underlying t=some (.slice e))(dM:di P e sz=true){st:ay}{bx:bG}(hI:j8 w G st)(hB:kM w G β bx){cO:Nat->Nat}(hX:∀b,cO b+ir b β bx+cR b G.ls st<=1)
  {a h:AV}(ha:bF w G a (ρ x))(hh:bF w G h (ρ hi)){wl aa:Nat}{st':ay}{gX:bG}{r:fL}(CX:bn wl aa (.qB sz) [.val a,.val h] st bx=some (r,st',gX)) :
  ∃v G',(execOp ρ o).run P w=.ok (.value v) w/\jZ w G β st bx cO w G' β st' gX r v:=by
 unfold bn at CX;simp only at CX;split at CX
 ·rename_i id cQ n heq;cases heq;split at CX
  ·rename_i v s rows ja;split at CX
   ·rename_i hc;simp only[aac,aK]at hc;obtain⟨⟨⟨⟨rfl,rfl⟩,h0⟩,h1⟩,_⟩:=hc;cases CX;obtain⟨loc,hl,Ch,Bo,jb⟩:=hI.loc ja;generalize JL:ρ x=xv at ha;cases ha with
    |mu _ _ _ loc' hp qZ FZ he=>
    rw[hl]at qZ;cases qZ;have dG:=he (by omega);subst dG;have gY:rows.length<=loc.cap:=by
     rcases jb.qD with⟨h0,h1,_⟩|⟨b,off,c,e',uJ,gY,gw,dM,hlen,jl,eY⟩;rw[h1];simp;exact hlen
    have hhv:=hh.iz;have R8:(execOp ρ o).run P w=.ok (.value (.slice loc.a n.toNat loc.cap)) w:=by
     simp only[execOp,ho,JL,cg];have hb:(Instr.sliceBounds true loc.len loc.cap none (some (ρ hi)) none).run P w=.ok (0,n.toNat,loc.cap) w:=by
      have:=lu (P:=P) (wV:=true) (len:=loc.len) (cap:=loc.cap) (lo:=none) (hi:=some hi) (ρ:=ρ) (a:=0) (b:=n) (.inl ⟨rfl,rfl⟩) (.inr ⟨hi,rfl,hhv⟩) (by omega) h0 (by omega) w;simpa using this
     simp only[Instr.sliceAt,cg,cj hu,cZ,Instr.slice,Option.map_none,aef,hb,fF dM,Sem.run_pure];rcases jb.qD with⟨h0,h1,_⟩|⟨b,off,c,e',uJ,gY,gw,dM,hlen,jl,eY⟩;simp[h0];simp[uJ,mj,show ¬loc.cap=0 by omega]
    have Ma:tG w G w (G.at id ⟨loc.a,loc.cap,n.toNat,loc.sz,v+1,false,loc.vals.take n.toNat⟩):=L7 hl (by simp;omega) λh=>by rcases h with h|h<;>simp_all<;>omega
    refine⟨_,_,R8,tO (loc':=⟨loc.a,loc.cap,n.toNat,loc.sz,v+1,false,loc.vals.take n.toNat⟩) hI hB hX hl ja Ma rfl ⟨rfl,rfl,?_⟩ hI.nE (λb _ _=>⟨rfl,rfl⟩) (aau _) rfl rfl (.mu _ _ _ _ ⟨_,_,_,rfl⟩ (by simp only[bD.at];rw[abp,ah rfl,ah (aad.1 hl).1]) (aau _) λ_=>rfl) λb=>?_⟩;have hold:=qE.jT (w':=w) (show qE w G (.rows v s rows) loc from⟨Ch,Bo,jb⟩) Ma λb _=>⟨rfl,rfl⟩;obtain⟨_,_,h3⟩:=hold;refine⟨cV.2 λr hr=>cV.1 h3.GF r (adz hr),λr hr=>h3.Dd r (adz hr),by simp;omega,h3.size,by simp[h3.uf],λi r xs e1 e2=>?_,?_⟩;simp only at e2;rw[acv]at e1 e2;split at e1;rename_i bC;rw[ah bC]at e2;exact h3.uI i r xs e1 e2;cases e1;rcases h3.qD with⟨h0,h1,h2⟩|⟨b,off,c,e',uJ,gY,gw,dM,hlen,jl,eY⟩;exact .inl ⟨h0,by rw[h1];simp,h2⟩;refine .inr ⟨b,off,c,e',uJ,gY,gw,dM,by simp;omega,jl,λi xs j z e1 e2=>?_⟩;simp only at e1;rw[acv]at e1;split at e1;exact eY i xs j z e1 e2;cases e1;have h2:=Ea b n.toNat rows loc.vals;simp only[dg,gT];show 0+((if loc.jB=some b then 1 else 0)+g8 b (rows.take n.toNat) (loc.vals.take n.toNat))<=cO b+((if loc.jB=some b then 1 else 0)+g8 b rows loc.vals)+_;omega
   cases CX
  cases CX
 cases CX
end Ax
namespace Ax
open Go
variable {P:Program}{w w':World}{G G':bD}{β iM:List nD}{ρ:Operand->Value}{o:Oper}
theorem Eb{r:Nat}{es:Array MapEntry}{clock:Nat}{ob:Obj}(h:w.heap[r]?=some (.map es clock)):(setObj r ob).run P w=.ok () { w with heap:=w.heap.setIfInBounds r ob }:=by
 simp[setObj,Sem.run,h]
variable{kk:SK}
theorem xh{t:TypeId}(ht:qg P t kk=true){k v:AV}{x y:Value}(hk:bF w G k x)(hv:bF w G v y)(hkn:k.cS=true)(Wm:v.cS=true):∀(es wW:List (AV×AV))(fs:List MapEntry),zq w G es fs->Ge kk k v es=some wW->
  (∃i e u,tA kk k es=some (some u)/\fs[i]?=some e/\(∀(q:Option (Nat×Value)),(Instr.findKey t x fs).run P w=.ok q w->∃val,q=some (i,val))/\FX kk k (es[i]?.map (·.1) |>.getD .undef)=some true/\(∃a,es[i]?=some a/\bF w G a.1 e.key)/\zq w G wW (fs.set i { e with key:=x,val:=y }))\/
  (tA kk k es=some none/\∀born,zq w G wW (fs++[{ key:=x,val:=y,born:=born }])):=by
 have hu:∃d,P.underlying t=some d:=by
  unfold qg at ht;cases kk<;>simp only at ht<;>split at ht<;>(try cases ht)<;>exact⟨_,by assumption⟩
 obtain⟨d,hu⟩:=hu;intro es;induction es with
 |nil=>
  intro wW fs hM h;simp only[Ge,bh]at h;subst h;have h0:fs=[]:=aaK (by simpa using hM.1);subst h0;refine .inr ⟨rfl,λborn=>⟨rfl,λi a b e h1 h2=>?_⟩⟩;cases i with
  |zero=>simp at h1 h2;obtain⟨rfl,rfl⟩:=h1;subst h2;exact⟨hk,hv,Wm,hkn⟩|succ i=>simp at h1
 |cons c es ih=>
  intro wW fs hM h;obtain⟨a,u⟩:=c;cases fs with
  |nil=>have:=hM.1;simp at this|cons f fs=>
   obtain⟨g1,g2,g3,g4⟩:=hM.2 0 a u f rfl rfl;simp only[Ge]at h;split at h;rename_i he;cases h;refine .inl ⟨0,f,u,by simp[tA,he],rfl,λq hq=>?_,by simpa using he,⟨(a,u),rfl,g1⟩,?_⟩;have hs:=vr ht hu he hk g1;have:(Instr.findKey t x (f::fs)).run P w=.ok (some (0,f.val)) w:=by simp[Instr.findKey,cj hu,Instr.findNow,hs]
   rw[this]at hq;cases hq;exact⟨_,rfl⟩;refine⟨by simpa using hM.1,λi p q e h1 h2=>?_⟩;cases i with
   |zero=>simp at h1 h2;obtain⟨rfl,rfl⟩:=h1;subst h2;exact⟨hk,hv,Wm,hkn⟩|succ i=>exact hM.2 (i+1) p q e (by simpa using h1) (by simpa using h2)
   rename_i he;split at h;rename_i r' yP;cases h;have hs:=vr ht hu he hk g1;have Zm:∀es2 fs2,zq w G es2 fs2->zq w G ((a,u)::es2) (f::fs2):=λes2 fs2 h2=>⟨by simp[h2.1],λi p q e e1 e2=>by
    cases i with
    |zero=>simp at e1 e2;obtain⟨rfl,rfl⟩:=e1;subst e2;exact⟨g1,g2,g3,g4⟩|succ i=>exact h2.2 i p q e (by simpa using e1) (by simpa using e2)⟩
   rcases ih r' fs hM.tail yP with⟨i,e,u',f1,f2,f3,f4,f5,f6⟩|⟨f1,f2⟩;refine .inl ⟨i+1,e,u',by simp[tA,he,f1],by simpa using f2,λq hq=>?_,by simpa using f4,by simpa using f5,by simpa using Zm _ _ f6⟩;obtain⟨q0,e1,e2⟩:=vu ht hu hk es fs 0 _ hM.tail f1;obtain⟨q1,e3,e4⟩:=vu ht hu hk es fs 1 _ hM.tail f1;obtain⟨j0,e0,a1,_⟩:=e2;obtain⟨j1,e0',b1,b2,_⟩:=e4;have h0:(Instr.findKey t x fs).run P w=.ok q0 w:=(by simp[Instr.findKey,cj hu,e1]);obtain⟨val,dG⟩:=f3 q0 h0;have:(Instr.findKey t x (f::fs)).run P w=.ok q1 w:=by simp[Instr.findKey,cj hu,Instr.findNow,hs,e3]
   rw[this]at hq;cases hq;have key:∀(fs:List MapEntry) (s:Nat) (q:Option (Nat×Value)),Instr.findNow d x fs s=some q->Instr.findNow d x fs (s+1)=some (q.map λz=>(z.1+1,z.2)):=by
    intro fs;induction fs with
    |nil=>intro s q h;simp[Instr.findNow]at h ⊢;subst h;rfl|cons f fs ih=>
     intro s q h;simp only[Instr.findNow]at h ⊢;cases hsn:Instr.sameNow d x f.key with
     |none=>rw[hsn]at h;simp at h|some b=>
      rw[hsn]at h;cases b with
      |true=>simp at h ⊢;subst h;rfl|false=>simp at h ⊢;exact ih _ _ h
   have h3:=key fs 0 q0 e1;rw[aex]at h3;rw[e3]at h3;cases h3;rw[dG];exact⟨val,rfl⟩;exact .inr ⟨by simp[tA,he,f1],λborn=>Zm _ _ (f2 born)⟩;cases h;cases h
theorem J1{a b:AV}{x y:Value}(h:FX kk a b=some true)(ha:bF w G a x)(hb:bF w G b y)(n:Nat):Instr.sameBits n y x=true:=by
 unfold FX at h;split at h;simp only[bh,cz]at h;rw[ha.kA,hb.kA,h];simp[Instr.sameBits];split at h;rename_i fR;subst fR;simp only[bh,cz]at h;rw[ha.iz,hb.iz,h];simp[Instr.sameBits];cases h;simp only[bh,cz]at h;obtain⟨s,rfl,rfl⟩:=ha.nv;obtain⟨s',rfl,h2⟩:=hb.nv;have:s=s':=ByteArray.ext (Array.toList_inj.1 (h.trans h2.symm));subst this;simp only[Instr.sameBits];rw[beq_toListBytes];exact beq_self_eq_true _;cases h
theorem Cm{t kt et:TypeId}{m k x:Operand}(ho:o.op=.mapUpdate t m k x\/o.op=.insert t m k x)(hu:P.underlying t=some (.map kt et))(ht:qg P kt kk=true){st:ay}{bx:bG}(hI:j8 w G st)(hB:kM w G β bx){cO:Nat->Nat}(hX:∀b,cO b+ir b β bx+cR b G.ls st<=1)
  {am ak av:AV}(hm:bF w G am (ρ m))(hk:bF w G ak (ρ k))(hv:bF w G av (ρ x)){wl aa:Nat}{st':ay}{gX:bG}{r:fL}(ha:bn wl aa (.mapUpdate kk) [.val am,.val ak,.val av] st bx=some (r,st',gX)) :
  ∃w' G',(execOp ρ o).run P w=.ok .skip w'/\jZ w G β st bx cO w' G' β st' gX r undef:=by
 unfold bn at ha;simp only at ha;split at ha;rename_i id k0 v0 heq;cases heq;split at ha;rename_i es ja;split at ha;rename_i kP;simp only[aac]at kP;split at ha;rename_i wW PJ;cases ha;have hkn:ak.cS=true:=by
  have:=kP.1;unfold Gz at this;split at this<;>first|rfl|cases this
 obtain⟨loc,hl,JK⟩:=hI.loc ja;obtain⟨g1,g2,b,fs,clock,g3,g4,g5,g6,g7⟩:=JK;have hmv:ρ m=.map (some b):=by
  generalize ρ m=mv at hm;cases hm with
  |map _ loc' bk qZ Ch nV=>rw[hl]at qZ;cases qZ;rw[nV]at g3;cases g3;rfl
 have ig:loc.jB=some b:=by unfold lY.jB;rw[U (by omega),g3];rfl
 have hM:zq w G es fs.toList:=⟨by simpa using g6,λi a v e e1 e2=>g7 i a v e e1 (by simpa using e2)⟩;have Wa:(getObj b).run P w=.ok (.map fs clock) w:=by simp[getObj,Sem.run,g4]
 have VD:=run_checkKey (w:=w) ht false 9999 (ρ k);have nu:∀(fs':Array MapEntry) (Ih:Nat),zq w G wW fs'.toList->
   jZ w G β st bx cO { w with heap:=w.heap.setIfInBounds b (.map fs' Ih) } ⟨(G.at id loc).ls,λb'=>if b'=b then some 0 else G.mR b'⟩ β (st.set id (.map wW)) bx .none undef:=by
  intro fs' Ih hM';have bC:b<w.heap.size:=(abq.1 g4).1;have hW:Wr w G { w with heap:=w.heap.setIfInBounds b (.map fs' Ih) } ⟨(G.at id loc).ls,λb'=>if b'=b then some 0 else G.mR b'⟩ b:=
   ⟨by simp,λb' nV=>by simp only[ahc];rw[U λe=>nV e.symm],λb' nV=>by simp[nV],⟨0,0,g5,by simp,aau _,λo ho=>by omega⟩,D6 hl (aau _) λ_=>rfl⟩
  refine tO hI hB hX hl ja hW.jT rfl ⟨g1,g2,b,fs',Ih,g3,?_,by simp,by simpa using hM'.1,λi a v e e1 e2=>?_⟩ (hW.nE hI) (λb' _ nV=>hW.jV λe=>nV (by rw[ig,e])) (by simp) rfl rfl trivial λb'=>by simp only[dg,jm];omega
  simp only[ahc];rw[ah trivial,ah bC];obtain⟨h1,h2,h3,h4⟩:=hM'.2 i a v e e1 (by simpa using e2);exact⟨h1.jT hW.jT λb hb=>by rw[fV b a _ h4]at hb;omega,h2.jT hW.jT λb hb=>by rw[fV b v _ h3]at hb;omega,h3,h4⟩
 have head:∀(w':World),(Instr.mapUpdate t (.map (some b)) (ρ k) (ρ x)).run P w=.ok () w'->(execOp ρ o).run P w=.ok .skip w':=by
  intro w' h;rcases ho with ho|ho<;>simp only[execOp,ho,hmv,cg,h,cZ,Sem.run_pure]
 rcases xh ht hk hv.ai hkn (vq av) es wW fs.toList hM PJ with⟨i,e,u,f1,f2,f3,f4,⟨a,f5,f6⟩,f7⟩|⟨f1,f2⟩;obtain⟨q,e1,e2⟩:=run_findKey ht hk hM f1 w;obtain⟨val,rfl⟩:=f3 q e1;have hfi:fs[i]?=some e:=by simpa using f2
 refine⟨_,_,head _ ?_,nu (fs.modify i λe=>{ e with key:=ρ k,val:=ρ x }) clock ?_⟩;rw[f5]at f4;have hsb:=J1 f4 hk f6 10000;simp only[Instr.mapUpdate,cg,cj hu,cZ,Wa,VD,e1,hfi,aef,Option.getD_some,Instr.keyThatStays,hsb,aQ,Sem.run_pure,Eb g4];have:(fs.modify i λe=>{ e with key:=ρ k,val:=ρ x }).toList=fs.toList.set i { e with key:=ρ k,val:=ρ x }:=by
  rw[Array.toList_modify];apply aeE;intro j;rw[List.getElem?_modify,abp];by_cases CT:i=j;subst CT;simp[(abq.1 hfi).1,(abq.1 hfi).2];simp[CT]
 rw[this];exact f7;obtain⟨q,e1,e2⟩:=run_findKey ht hk hM f1 w;simp only at e2;subst e2;refine⟨_,_,head _ ?_,nu (fs.push { key:=ρ k,val:=ρ x,born:=clock }) (clock+1) (by rw[Array.toList_push];exact f2 clock)⟩;simp only[Instr.mapUpdate,cg,cj hu,cZ,Wa,VD,e1,Eb g4];cases ha;cases ha;cases ha;cases ha
end Ax
namespace Ax
open Go
variable {P:Program}{w w':World}{G G':bD}{β iM:List nD}{ρ:Operand->Value}{o:Oper}
structure Jx (w:World)(G:bD)(st:ay)(G':bD)(st':ay):Prop where
 jT:tG w G w G'
 inv:j8 w G' st'
 gT:∀b,cR b G'.ls st'<=cR b G.ls st
 w8:∀b,cR b G.ls st=0->G'.mR b=G.mR b
theorem Jx.refl{st:ay}(hI:j8 w G st):Jx w G st G st:=⟨tG.refl w G,hI,λ_=>aau _,λ_ _=>rfl⟩
theorem Jx.trans{G1 G2:bD}{st qQ qb:ay}(h:Jx w G st G1 qQ)(k:Jx w G1 qQ G2 qb):Jx w G st G2 qb:=
 ⟨h.jT.trans k.jT,k.inv,λb=>Nat.le_trans (k.gT b) (h.gT b),λb hb=>(k.w8 b (by have:=h.gT b;omega)).trans (h.w8 b hb)⟩
mutual
theorem xm:∀a:AV,a.aB=true->a.ai.aB=true
 |.k8 _ _,_=>by simp[AV.ai,AV.aB]|.raw _ _,_=>by simp[AV.ai,AV.aB]|.agg cs,h=>by simp only[AV.ai,AV.aB]at *;exact pV cs h|.fK cs,h=>by simp only[AV.ai,AV.aB]at *;exact pV cs h|.undef,h|.gone,h|.bool _,h|.int _ _,h|.str _,h|.dV,h|.af,h|.hY,h|.jz,h|.kO,h|.eE _ _,h|.mE,h|.mu _ _,h|.ptr _ _ _ _,h|.qP _ _ _ _,h|.map _,h|.fn _ _ _,h=>by simpa [AV.ai] using h
theorem pV:∀cs:List AV,AV.ax cs=true->AV.ax (AV.cW cs)=true
 |[],_=>rfl|c::cs,h=>by
  simp only[AV.ax,aac]at h;simp only[AV.cW,AV.ax,xm c h.1,pV cs h.2,Bool.and_self]
end
variable{a:AV}{v:Value}{rows:List (List AV)}
theorem bF.BB(h:bF w G a v)(hs:tG w G w' G')(hn:a.cS=true):bF w' G' a v:=h.jT hs λb hb=>by rw[fV b a v hn]at hb;omega
def lO(sz cQ:Nat):lY:=⟨some ⟨0,0,none⟩,0,0,sz,cQ+1,false,[]⟩
theorem Ii(sz cQ:Nat):qE w G (.rows (cQ+1) sz []) (lO sz cQ):=
 ⟨rfl,rfl,by simp[cn],by simp,rfl,rfl,rfl,λi r xs h=>by simp at h,.inl ⟨rfl,rfl,rfl⟩⟩
theorem GP{st:ay}(hI:j8 w G st){id cQ sz:Nat}{loc:lY}(ja:st[id]?=some (.rows cQ sz rows))(hl:G.ls[id]?=some loc)(Ch:loc.mp=false)(Bo:loc.cQ=cQ) :
  Jx w G st (G.at id (lO sz cQ)) (st.set id (.rows (cQ+1) sz []))/\∀b,cR b (G.at id (lO sz cQ)).ls (st.set id (.rows (cQ+1) sz []))+jm b loc (.rows cQ sz rows)=cR b G.ls st:=by
 have hs:tG w G w (G.at id (lO sz cQ)):=L7 hl (by simp only[lO];omega) λh=>by
  rcases h with h|h;simp only[lO]at h;omega;rw[Ch]at h;cases h
 have hc:∀b,cR b (G.at id (lO sz cQ)).ls (st.set id (.rows (cQ+1) sz []))+jm b loc (.rows cQ sz rows)=cR b G.ls st:=λb=>by
  have:=w7 b G.ls st id loc _ (lO sz cQ) (.rows (cQ+1) sz []) hl ja;have h0:jm b (lO sz cQ) (.rows (cQ+1) sz [])=0:=by simp[jm,lO,lY.jB,g8]
  rw[h0]at this;exact this
 exact⟨⟨hs,Dg hI hs rfl (λ_ _ _ b _ _ _ _=>⟨rfl,rfl⟩) (Ii sz cQ) hI.nE,λb=>by have:=hc b;omega,λ_ _=>rfl⟩,hc⟩
def bD.CY(G:bD)(b:Nat):bD:=⟨G.ls,λb'=>if b'=b then none else G.mR b'⟩
theorem J2{st:ay}(hI:j8 w G st){b:Nat}(hb:G.mR b=some 0)(h0:cR b G.ls st=0):tG w G w (G.CY b)/\j8 w (G.CY b) st:=by
 have hs:tG w G w (G.CY b):=⟨λb' o hi=>⟨rfl,hi.1,λp hp=>by
  simp only[bD.CY]at hp;split at hp;cases hp;exact hi.2 p hp⟩,D5 G⟩
 refine⟨hs,xd hI hs rfl (λb' nV=>⟨?_,rfl⟩) λb' p hp=>?_⟩;simp only[bD.CY];rw[U];intro e;subst e;omega;simp only[bD.CY]at hp;split at hp;cases hp;exact hI.nE b' p hp
theorem J3{sz b off cap:Nat}{vals:List (List Value)}(dL:cn sz rows=true)(jC:∀r∈rows,AV.bw r=true)(iI:∀r∈rows,AV.fq r=true)(qf:∀r∈rows,AV.ax r=true)
  (hlen:vals.length=rows.length)(ae0:∀(i:Nat) r xs,rows[i]?=some r->vals[i]?=some xs->cU w G r xs)(gY:rows.length<=cap)(hb:b<w.heap.size)(ht:G.mR b=none)
  (eY:∀(i:Nat) xs (j:Nat) x,vals[i]?=some xs->xs[j]?=some x->w.cell? ⟨b,off+(i*sz+j),none⟩=some x):bF w G (.eE sz rows) (.slice (some ⟨b,off,none⟩) rows.length cap):=by
 have key:∀(i:Nat) r (j:Nat) c,rows[i]?=some r->r[j]?=some c->∃v,w.cell? ⟨b,off+(i*sz+j),none⟩=some v/\bF w G c v:=by
  intro i r j c h1 h2;have hi:i<vals.length:=by rw[hlen];exact(aad.1 h1).1
  have hv:=aag hi;obtain⟨e1,e2⟩:=ae0 i r _ h1 hv;have hj:j<vals[i].length:=by rw[<-e1];exact(aad.1 h2).1
  exact⟨_,eY i _ j _ hv (aag hj),e2 j c _ h2 (aag hj)⟩
 refine .eE sz rows ⟨b,off,none⟩ cap rfl gY dL iI qf jC (λi r j c h1 h2=>⟨⟨hb,λp hp=>by simp only at hp;rw[ht]at hp;cases hp⟩,?_⟩) λi r j c v h1 h2 h3=>?_;obtain⟨v,h,_⟩:=key i r j c h1 h2;exact⟨v,h⟩;obtain⟨v',h,h'⟩:=key i r j c h1 h2;rw[h]at h3;cases h3;exact h'
theorem Mg{wl:Nat}{st st':ay}{a':AV}(hI:j8 w G st)(hX:∀b,cR b G.ls st<=1)(h:bF w G a v)(hf:kS wl a st=some (a',st')) :
  ∃G',Jx w G st G' st'/\bF w G' a' v/\a'.cS=true/\a'.aB=true/\a'.dj=true:=by
 unfold kS at hf;split at hf
 ·rename_i id cQ;split at hf
  ·rename_i v0 sz rows ja;split at hf
   ·rename_i hc;simp only[aac,aK,adu,aaB]at hc;obtain⟨⟨⟨rfl,qf⟩,fy⟩,_⟩:=hc;cases hf;obtain⟨loc,hl,Ch,Bo,jb⟩:=hI.loc ja;cases h with
    |mu _ _ _ loc' hp qZ FZ he=>
    rw[hl]at qZ;cases qZ;have dG:=he (by omega);subst dG;rcases jb.qD with⟨_,qh,_⟩|⟨b,off,c,e',uJ,gY,gw,dM,hlen,jl,eY⟩;subst qh;simp at fy;obtain⟨f1,f2⟩:=GP hI ja hl Ch Bo;have ig:loc.jB=some b:=(by unfold lY.jB;rw[U (by omega),uJ];rfl);have h0:cR b (G.at id (lO sz v0)).ls (st.set id (.rows (v0+1) sz []))=0:=by
     have h1:=f2 b;have h2:=hX b;simp only[jm,ig,aQ]at h1;omega
    obtain⟨g1,g2⟩:=J2 f1.inv (b:=b) (by exact jl) h0;refine⟨(G.at id (lO sz v0)).CY b,⟨f1.jT.trans g1,g2,f1.gT,λb' nV=>?_⟩,?_,by simp[AV.cS],by simp[AV.aB],by simp[AV.dj]⟩;simp only[bD.CY,bD.at];rw[U];intro e;subst e;have h1:=f2 b';simp only[jm,ig,aQ]at h1;omega;rw[uJ,jb.len,show rows.length=(rows.map AV.cW).length by simp];refine J3 (vals:=loc.vals) (cV.2 λr hr=>?_) (λr hr=>?_) (λr hr=>?_) (λr hr=>?_) (by simpa using jb.uf) (λi r xs h1 h2=>?_) (by simpa using hlen) (abq.1 gw).1 (by simp[bD.CY]) eY;obtain⟨r',yP,rfl⟩:=ab9.1 hr;rw[nX];exact cV.1 jb.GF r' yP;obtain⟨r',yP,rfl⟩:=ab9.1 hr;rw[sy];exact jb.Dd r' yP;obtain⟨r',yP,rfl⟩:=ab9.1 hr;exact iD r';obtain⟨r',yP,rfl⟩:=ab9.1 hr;exact pV r' (qf r' yP);simp only[aei,acs]at h1;obtain⟨r',h1,rfl⟩:=h1;refine(jb.uI i r' xs h1 h2).ai.mono (f1.jT.trans g1) λb' nV=>?_;rw[eS b' _ _ (iD r')]at nV;omega
   cases hf
  cases hf
 split at hf;rename_i hc;simp only[aac]at hc;cases hf;exact⟨G,Jx.refl hI,h.ai,vq a,xm a hc.1,by rw[Cl];exact hc.2⟩;cases hf
theorem Ec{wl:Nat}:∀{l l':List AV}{xs:List Value}{G:bD}{st st':ay},j8 w G st->(∀b,cL b l xs+cR b G.ls st<=1)->cU w G l xs->jL wl l st=some (l',st')->
  ∃G',Jx w G st G' st'/\cU w G' l' xs/\AV.fq l'=true/\AV.ax l'=true/\AV.bw l'=true
 |[],l',xs,G,st,st',hI,hX,h,hf=>by
  simp only[jL,bh,cF]at hf;obtain⟨rfl,rfl⟩:=hf;exact⟨G,Jx.refl hI,h,rfl,rfl,rfl⟩
 |a::l,l',xs,G,st,st',hI,hX,h,hf=>by
  simp only[jL]at hf;split at hf
  ·rename_i a1 qQ h1;split at hf
   ·rename_i l2 qb h2;cases hf;cases xs with
    |nil=>have:=h.1;simp at this|cons x xs=>
    obtain⟨G1,f1,f2,f3,f4,f5⟩:=Mg hI (λb=>by have:=hX b;omega) (h.2 0 a x rfl rfl) h1;have Sa:cU w G l xs:=⟨by simpa using h.1,λi c v e1 e2=>h.2 (i+1) c v (by simpa using e1) (by simpa using e2)⟩;have hX1:∀b,cL b l xs+cR b G1.ls qQ<=1:=λb=>by
     have e1:=hX b;have e2:=f1.gT b;simp only[cL]at e1;omega
    obtain⟨G2,g1,g2,g3,g4,g5⟩:=Ec f1.inv hX1 (Sa.mono f1.jT λb hb=>⟨f1.w8 b (by have:=hX b;simp only[cL]at this;omega),rfl⟩) h2;refine⟨G2,f1.trans g1,⟨by simp[g2.1],λi c v e1 e2=>?_⟩,by simp[AV.fq,f3,g3],by simp[AV.ax,f4,g4],?_⟩;cases i with
    |zero=>simp at e1 e2;subst e1;subst e2;exact f2.BB g1.jT f3|succ i=>exact g2.2 i c v (by simpa using e1) (by simpa using e2)
    simp only[AV.bw,agm,aac]at g5 ⊢;exact⟨f5,g5⟩
   cases hf
  cases hf
theorem xq{wl:Nat}:∀{l l':List AV}{st st':ay},jL wl l st=some (l',st')->l'.length=l.length
 |[],l',st,st',hf=>by simp only[jL,bh,cF]at hf;obtain⟨rfl,_⟩:=hf;rfl|a::l,l',st,st',hf=>by
  simp only[jL]at hf;split at hf;split at hf;rename_i h2;cases hf;simp[xq h2];cases hf;cases hf
theorem Cn{wl:Nat}:∀{l l':List (List AV)}{xs:List (List Value)}{G:bD}{st st':ay},j8 w G st->(∀b,g8 b l xs+cR b G.ls st<=1)->l.length=xs.length->(∀(i:Nat) r x,l[i]?=some r->xs[i]?=some x->cU w G r x)->jk wl l st=some (l',st')->
  ∃G',Jx w G st G' st'/\l'.length=l.length/\(∀(i:Nat) r x,l'[i]?=some r->xs[i]?=some x->cU w G' r x)/\(∀(i:Nat) r r',l[i]?=some r->l'[i]?=some r'->r'.length=r.length)/\(∀r∈l',AV.fq r=true)/\(∀r∈l',AV.ax r=true)/\(∀r∈l',AV.bw r=true)
 |[],l',xs,G,st,st',hI,hX,hl,h,hf=>by
  simp only[jk,bh,cF]at hf;obtain⟨rfl,rfl⟩:=hf;exact⟨G,Jx.refl hI,rfl,h,λi r r' e=>by simp at e,by simp,by simp,by simp⟩
 |a::l,l',xs,G,st,st',hI,hX,hl,h,hf=>by
  simp only[jk]at hf;split at hf
  ·rename_i a1 qQ h1;split at hf
   ·rename_i l2 qb h2;cases hf;cases xs with
    |nil=>simp at hl|cons x xs=>
    obtain⟨G1,f1,f2,f3,f4,f5⟩:=Ec hI (λb=>by have:=hX b;simp only[g8]at this;omega) (h 0 a x rfl rfl) h1;have hX1:∀b,g8 b l xs+cR b G1.ls qQ<=1:=λb=>by
     have e1:=hX b;have e2:=f1.gT b;simp only[g8]at e1;omega
    obtain⟨G2,g1,g2,g3,g4,g5,g6,g7⟩:=Cn f1.inv hX1 (by simpa using hl) (λi r y e1 e2=>(h (i+1) r y (by simpa using e1) (by simpa using e2)).mono f1.jT λb hb=>⟨f1.w8 b (by
     have e3:=hX b;have e4:=yd b l xs i r y e1 e2;simp only[g8]at e3;omega),rfl⟩) h2
    refine⟨G2,f1.trans g1,by simp[g2],λi r y e1 e2=>?_,λi r r' e1 e2=>?_,λr hr=>?_,λr hr=>?_,λr hr=>?_⟩;cases i with
    |zero=>simp at e1 e2;subst e1;subst e2;exact f2.mono g1.jT λb hb=>by rw[eS b _ _ f3]at hb;omega|succ i=>exact g3 i r y (by simpa using e1) (by simpa using e2)
    cases i with
    |zero=>simp at e1 e2;subst e1;subst e2;exact xq h1|succ i=>exact g4 i r r' (by simpa using e1) (by simpa using e2)
    rcases ac1.1 hr with rfl|hr;exact f3;exact g5 r hr;rcases ac1.1 hr with rfl|hr;exact f4;exact g6 r hr;rcases ac1.1 hr with rfl|hr;exact f5;exact g7 r hr
   cases hf
  cases hf
theorem zv{wl:Nat}{st st':ay}{a':AV}(hI:j8 w G st)(hX:∀b,cR b G.ls st<=1)(h:bF w G a v)(hf:iy wl a st=some (a',st')) :
  ∃G',Jx w G st G' st'/\bF w G' a' v/\a'.cS=true:=by
 unfold iy at hf;split at hf
 ·rename_i id cQ;split at hf
  ·rename_i v0 sz rows ja;split at hf
   ·rename_i hc;simp only[aac,aK,adu]at hc;obtain⟨⟨rfl,fy⟩,_⟩:=hc;split at hf
    ·rename_i fJ qQ F4;cases hf;obtain⟨loc,hl,Ch,Bo,jb⟩:=hI.loc ja;cases h with
     |mu _ _ _ loc' hp qZ FZ he=>
     rw[hl]at qZ;cases qZ;have dG:=he (by omega);subst dG;rcases jb.qD with⟨_,qh,_⟩|⟨b,off,c,e',uJ,gY,gw,dM,hlen,jl,eY⟩;subst qh;simp at fy;obtain⟨f1,f2⟩:=GP hI ja hl Ch Bo;have ig:loc.jB=some b:=(by unfold lY.jB;rw[U (by omega),uJ];rfl);have hX1:∀b',g8 b' rows loc.vals+cR b' (G.at id (lO sz v0)).ls (st.set id (.rows (v0+1) sz []))<=1:=λb'=>by
      have h1:=f2 b';have h2:=hX b';simp only[jm]at h1;omega
     obtain⟨G2,g1,g2,g3,g4,g5,g6,g7⟩:=Cn f1.inv hX1 jb.uf.symm (λi r y e1 e2=>(jb.uI i r y e1 e2).mono f1.jT λb _=>⟨rfl,rfl⟩) F4;have h0:cR b (G.at id (lO sz v0)).ls (st.set id (.rows (v0+1) sz []))=0:=by
      have h1:=f2 b;have h2:=hX b;simp only[jm,ig,aQ]at h1;omega
     have ht2:G2.mR b=some 0:=(g1.w8 b h0).trans jl;obtain⟨k1,k2⟩:=J2 g1.inv ht2 (by have:=g1.gT b;omega);refine⟨G2.CY b,⟨(f1.jT.trans g1.jT).trans k1,k2,λb'=>Nat.le_trans (g1.gT b') (f1.gT b'),λb' nV=>?_⟩,?_,by simp[AV.cS]⟩;have hbb:b'≠b:=by
      intro e;subst e;have h1:=f2 b';simp only[jm,ig,aQ]at h1;omega
     simp only[bD.CY];rw[U hbb];exact g1.w8 b' (by have:=f1.gT b';omega);rw[uJ,jb.len,<-g2];refine J3 (vals:=loc.vals) (cV.2 λr hr=>?_) g7 g5 g6 (by rw[jb.uf,g2]) (λi r xs h1 h2=>(g3 i r xs h1 h2).mono k1 λb' nV=>by rw[eS b' _ _ (g5 r (dR h1))]at nV;omega) (by rw[g2];exact hlen) (abq.1 gw).1 (by simp[bD.CY]) eY;obtain⟨i,hi,rfl⟩:=abo.1 hr;have rN:i<rows.length:=(by rw[<-g2];exact hi);rw[g4 i rows[i] fJ[i] (aag rN) (aag hi)];exact cV.1 jb.GF _ (aaq rN)
    cases hf
   cases hf
  cases hf
 cases hf;cases h;exact⟨G,Jx.refl hI,.af,rfl⟩;cases hf
end Ax
namespace Ax
open Go
variable {P:Program}{w w':World}{G G':bD}{β iM:List nD}{ρ:Operand->Value}{o:Oper}
theorem Ah{sz:Nat}{α:Type}:∀(n:Nat)(rows:List (List α)),(∀r∈rows,r.length=sz)->rows.flatten.drop (n*sz)=(rows.drop n).flatten
 |0,rows,_=>by simp|n+1,[],_=>by simp|n+1,r::rows,h=>by
  have h0:r.length=sz:=h r (by simp);have ih:=Ah n rows λx hx=>h x (by simp[hx]);rw[List.drop_succ_cons,List.flatten_cons,<-ih,aeq,Nat.add_comm,<-adC,<-h0,List.drop_left]
theorem aas{t tx ty e:TypeId}{sz:Nat}(ht:P.underlying t=some (.slice e))(dM:di P e sz=true)(hk:(∃e',P.underlying tx=some (.slice e'))\/P.underlying tx=some .string)
  {st:ay}{bx:bG}(hI:j8 w G st)(hB:kM w G β bx){cO:Nat->Nat}(hX:∀b,cO b+ir b β bx+cR b G.ls st<=1)
  {s x:AV} {vs vx:Value} (hs:bF w G s vs) (hx:bF w G x vx) {wl aa:Nat} {st':ay} {gX:bG} {r:fL} (ha:bn wl aa (.copy sz) [.val s,.val x] st bx=some (r,st',gX)) :
  ∃v w' G',(Builtin.copy_ #[t,tx] ty #[vs,vx]).run P w=.ok v w'/\jZ w G β st bx cO w' G' β st' gX r v:=by
 obtain⟨i,hi,dM⟩:∃i,P.info? e=some i/\i.size=sz:=by
  unfold di at dM;split at dM;rename_i i hi;exact⟨i,hi,by simpa using dM⟩;cases dM
 unfold bn at ha;simp only at ha;split at ha
 ·rename_i id cQ x2 heq;simp only[List.cons.injEq,fL.val.injEq,and_true]at heq;obtain⟨rfl,rfl⟩:=heq;split at ha
  ·rename_i v ke js new ja uM;split at ha
   ·rename_i hc;simp only[aac,aK]at hc;obtain⟨⟨⟨⟨⟨rfl,rfl⟩,dL⟩,hle⟩,_⟩,_⟩:=hc;cases ha;obtain⟨news,fm,sC,jC,iI,_⟩:=Bz hI hx uM dL hk;have Gi:∀b xs,cL b new.flatten xs=0:=λb xs=>eS b _ _ ((dm _).2 λx hx=>by
     obtain⟨r,hr,hx⟩:=aeZ.1 hx;exact(dm r).1 (iI r hr) x hx)
    obtain⟨loc,hl,Ch,Bo,jb⟩:=hI.loc ja;cases hs with
    |mu _ _ _ loc' hp qZ FZ he=>
    rw[hl]at qZ;cases qZ;have dG:=he (by omega);subst dG;obtain⟨F4,Wg,hfv,Ic⟩:=jb.flat;have hfo:=cV.1 jb.GF;have N2:loc.vals.flatten.length=js.length*ke:=(by rw[<-F4.1];exact gy js hfo);have N3:news.length=new.length*ke:=sC.newsLen;have aat:Nat.min new.length loc.len=new.length:=(by rw[jb.len];exact Nat.min_eq_left hle);by_cases fy:new=[];subst fy;have h0:news=[]:=aaK (by simpa using N3);subst h0;refine⟨.int .i64 0,w,G,?_,?_⟩;have h1:=sC.len;have h2:=sC.cells;simp only[aeP]at h1 h2 aat;cases uJ:loc.a<;>simp[Builtin.copy_,cj ht,Go.sizeOf,typeInfo,hi,dM,h1,h2,aat,storeCells,goInt];have:st.set id (.rows v ke ([]++js.drop 0))=st:=gd st id _ (by simpa using ja);simp only[aeP]at this ⊢;rw[this];exact jZ.nM hI hB (.int _ _) λb=>by simp[dg,gT]
    have hn:0<new.length:=afc.2 fy;rcases jb.qD with⟨h0,h1,_⟩|⟨b,off,c,e',uJ,gY,gw,ajl,hlen,jl,eY⟩;rw[h1]at hle;simp at hle;exact aU hle fy;have Mf:off+news.length<=c.size:=by
     rw[N3];have:new.length*ke<=loc.cap*ke:=acw _ (by omega);omega
    have CW:=iY (P:=P) b off e' news c w gw Mf sC.one;have e1:(Builtin.copy_ #[t,tx] ty #[.slice loc.a loc.len loc.cap,vx]).run P w=.ok (.int .i64 new.length) (w.setRow b (au c.toList off news).toArray):=by
     have h1:=sC.len;have h2:=sC.cells;simp[Builtin.copy_,cj ht,Go.sizeOf,typeInfo,hi,dM,h1,h2,aat,uJ,CW,goInt]
    have ko:=xg dL (b:=js.drop new.length) (by rw[cV];exact λr hr=>hfo r (adA hr));have Zn:(new++js.drop new.length).length=js.length:=(by simp;omega);have tN:(new++js.drop new.length).flatten=new.flatten++js.flatten.drop (new.length*ke):=by rw[agq,Ah _ _ hfo]
    let Gl:lY:=⟨some ⟨b,off,none⟩,loc.cap,(new++js.drop new.length).length,ke,v,false,sv ke (new++js.drop new.length).length (news++loc.vals.flatten.drop (new.length*ke))⟩
    have CU:∀(i:Nat) l,G.ls[i]?=some l->∃Wk,(G.at id Gl).ls[i]?=some Wk/\l.cQ<=Wk.cQ/\(l.cQ=Wk.cQ\/l.mp=true->Wk.hd=l.hd):=
     D6 hl (by simp only[Gl];omega) λ_=>by simp only[Gl,lY.hd,uJ,Zn,jb.len,jb.size,Ch]
    have GN:(G.at id Gl).ls[id]?=some Gl:=by
     simp only[bD.at];rw[abp,ah rfl,ah (aad.1 hl).1]
    have hW:Wr w G (w.setRow b (au c.toList off news).toArray) ⟨(G.at id Gl).ls,λb'=>if b'=b then some 0 else G.mR b'⟩ b:=
     D7 gw Mf jl (adF _) (aau _) CU
    have ig:loc.jB=some b:=(by unfold lY.jB;rw[U (by omega),uJ];rfl);refine⟨_,_,⟨(G.at id Gl).ls,λb'=>if b'=b then some 0 else G.mR b'⟩,e1,?_⟩;refine tO hI hB hX hl ja hW.jT rfl ⟨rfl,rfl,oe (b:=b) (off:=off) (c:=(au c.toList off news).toArray) (e:=e') (xs:=news++loc.vals.flatten.drop (new.length*ke)) ko (pU jC λr hr=>jb.Dd r (adA hr)) ?_ rfl rfl rfl rfl gY (setRow_heap w b c _ e' (0,0) gw) (by rw[aew,fh];simpa using ajl) (by rw[Zn];exact hlen) (by simp) λk x hk=>?_⟩
     (hW.nE hI) (λb' _ nV=>hW.jV λe=>nV (by rw[ig,e])) (by simp) rfl rfl (.int _ _) λb'=>?_
    rw[tN];refine(fm.mono hW.jT λb' nV=>by rw[Gi]at nV;omega).append ((F4.drop _).mono hW.jT λb' nV=>hW.jV λe=>?_);subst e;have h3:=yc b' (new.length*ke) _ _ F4.1;rw[Wg]at h3;have h1:=hX b';have h2:=n6 b' G.ls st id loc _ hl ja;simp only[jm,ig,aQ]at h2;omega;rw[tM gw Mf];by_cases JW:k<news.length;rw[aal JW]at hk;rw[ah (by omega),show off+k-off=k by omega];exact hk;rw[aar (by omega),adw]at hk;rw[U (by omega)];have:=Ic b off eY _ x hk;rw[show new.length*ke+(k-news.length)=k by omega]at this;exact this;have JX:Gl.jB=loc.jB:=by
     rw[ig];simp only[Gl];unfold lY.jB;rw[U (show ¬loc.cap=0 by omega)];rfl
    simp only[dg,gT,jm];rw[JX];simp only[Gl];rw[sw b' (new++js.drop new.length) _ (cV.1 ko) (by rw[tN,abv,abv,fm.1,acF,acF,F4.1]),tN,gZ b' _ _ _ _ fm.1,Gi];have:=yc b' (new.length*ke) _ _ F4.1;rw[Wg]at this;omega
   cases ha
  cases ha
 cases ha
end Ax
namespace Ax
open Go
variable {P:Program}{w w':World}{G G':bD}{β iM:List nD}{ρ:Operand->Value}{o:Oper}
theorem PK{α:Type}(r:List α)(k:Nat)(v:α)(h:k<r.length):au r k [v]=r.set k v:=by
 rw[kB _ _ _ (by simp;omega)];rw[List.set_eq_take_append_cons_drop,ah h];simp
theorem J4(b:Nat):∀(r:List AV)(xs:List Value)(k:Nat)(v v':AV)(x:Value),r[k]?=some v->xs[k]?=some x->cL b (r.set k v') xs+gT b v x=cL b r xs+gT b v' x
 |[],_,_,_,_,_,h,_=>by simp at h|_::_,[],_,_,_,_,_,h=>by simp at h|r::rs,x::xs,0,v,v',x',h,k=>by simp at h k;subst h;subst k;simp only[List.set_cons_zero,cL];omega|r::rs,x::xs,i+1,v,v',x',h,k=>by
  have:=J4 b rs xs i v v' x' (by simpa using h) (by simpa using k);simp only[List.set_cons_succ,cL];omega
theorem J5(G:bD)(ls:List lY):tG w G w ⟨G.ls++ls,G.mR⟩ where
 Rw:=λ_ _ h=>⟨rfl,h⟩
 fB:=λid loc hl=>⟨loc,by
  rw[aal (aad.1 hl).1];exact hl,aau _,λ_=>rfl⟩
theorem Wo{st:ay}{loc:lY}{ob:dA}(hI:j8 w G st)(h:qE w ⟨G.ls++[loc],G.mR⟩ ob loc):j8 w ⟨G.ls++[loc],G.mR⟩ (st++[ob]) where
 len:=by simp[hI.len]
 nE:=hI.nE
 aX:=λid Jw l h1 h2=>by
  simp only at h2;by_cases Bw:id<st.length;rw[aal Bw]at h1;rw[aal (by rw[hI.len];exact Bw)]at h2;exact(hI.aX id Jw l h1 h2).jT (J5 G _) λb _=>⟨rfl,rfl⟩;rw[aar (by omega)]at h1;rw[aar (by rw[hI.len];omega),hI.len]at h2;by_cases he:id-st.length=0;rw[he]at h1 h2;simp at h1 h2;subst h1;subst h2;exact h;obtain⟨n,hn⟩:∃n,id-st.length=n+1:=⟨id-st.length-1,by omega⟩;rw[hn]at h1;simp at h1
def vD(w:World)(a:Addr)(sz:Nat)(rows:List (List AV)):List (List Value):=
 rows.mapIdx λi r=>r.mapIdx λj _=>(w.cell? ⟨a.block,a.off+(i*sz+j),none⟩).getD Go.undef
theorem Wp{st:ay}{id ve i k k2 sz ke:Nat}{rows fJ:List (List AV)}{r:List AV}{u:Value}(hI:j8 w G st)(hp:bF w G (.ptr id ve i k) u)
  (ja:st[id]?=some (.rows ve sz rows))(dJ:rows[i]?=some r)(hv:r[k2]?=some (.raw ke fJ)) :
  ∃G',Jx w G st G' ((st++[dA.rows 0 ke fJ]).set id (.rows ve sz (rows.set i (au r k2 [.mu st.length 0])))):=by
 obtain⟨loc,b,o,c,e,xs,hl,Ch,Bo,jb,Mb,uJ,gY,ig,gw,hle,hlen,jl,Mc,mT,eY⟩:=Ag hI hp ja dJ;have HY:k2<r.length:=(aad.1 hv).1;obtain⟨x,hx⟩:∃x,xs[k2]?=some x:=⟨_,aag (by rw[<-mT.1];exact HY)⟩;have fm:=mT.2 _ _ _ hv hx;cases fm with
 |raw _ _ a cap lI Zo dL iI qf x7 hc hr ht hb=>
 obtain⟨cc,ce,hb1,hb2⟩:=hb;have key:∀(i:Nat) r (j:Nat) c,fJ[i]?=some r->r[j]?=some c->∃v,(vD w a ke fJ)[i]?.bind (·[j]?)=some v/\w.cell? ⟨a.block,a.off+(i*ke+j),none⟩=some v:=by
  intro i r j c h1 h2;obtain⟨v,hv⟩:=hc i r j c h1 h2;exact⟨v,by simp[vD,h1,h2,hv],hv⟩
 have hcl:∀(i:Nat) xs (j:Nat) x,(vD w a ke fJ)[i]?=some xs->xs[j]?=some x->w.cell? ⟨a.block,a.off+(i*ke+j),none⟩=some x:=by
  intro i xs j x h1 h2;simp only[vD,ag9,acs]at h1;obtain⟨r,h3,rfl⟩:=h1;simp only[ag9,acs]at h2;obtain⟨c,h4,rfl⟩:=h2;obtain⟨v,hv⟩:=hc i r j c h3 h4;rw[hv];rfl
 have ae2:(some a:Option Addr)=some ⟨a.block,a.off,none⟩:=by rw[<-lI]
 let loc':lY:=⟨some a,cap,fJ.length,ke,0,false,vD w a ke fJ⟩
 let G':bD:=⟨G.ls++[loc'],G.mR⟩
 have Wq:tG w G w G':=J5 G _;have hO:qE w G' (.rows 0 ke fJ) loc':=by
  refine⟨rfl,rfl,dL,x7,rfl,rfl,by simp[loc',vD],λi r xs h1 h2=>⟨?_,λj c v h3 h4=>?_⟩,?_⟩;simp only[loc',vD,ag9,h1,aef,bh]at h2;subst h2;simp;have h5:=hcl i xs j v h2 h4;exact(hr i r j c v h1 h3 h5).BB Wq ((dm r).1 (iI r (dR h1)) c (dR h3));rcases Nat.eq_zero_or_pos cap with h0|h0;refine .inl ⟨h0,?_,rfl⟩;cases fJ with
  |nil=>rfl|cons _ _=>simp at Zo;omega
  exact .inr ⟨a.block,a.off,cc,ce,ae2,h0,hb1,hb2,Zo,ht,hcl⟩
 have hI1:j8 w G' (st++[dA.rows 0 ke fJ]):=Wo hI hO;have Bw:id<st.length:=(aad.1 ja).1;have CW:(st++[dA.rows 0 ke fJ])[id]?=some (.rows ve sz rows):=by rw[aal Bw];exact ja
 have Gm:G'.ls[id]?=some loc:=by
  show (G.ls++[loc'])[id]?=_;rw[aal (by rw[hI.len];exact Bw)];exact hl
 have hmu:bF w G' (.mu st.length 0) (.slice (some a) fJ.length cap):=by
  refine .mu _ _ _ loc' ⟨_,_,_,rfl⟩ ?_ (aau _) λ_=>rfl;show (G.ls++[loc'])[st.length]?=_;rw[aar (by rw[hI.len];exact aau _),hI.len];simp
 have uh:au r k2 [AV.mu st.length 0]=r.set k2 (.mu st.length 0):=PK r k2 _ HY;have Sb:cU w G' r xs:=⟨mT.1,λj c v h1 h2=>(mT.2 j c v h1 h2).jT Wq λ_ _=>⟨rfl,rfl⟩⟩;have uM:qE w G' (.rows ve sz (rows.set i (au r k2 [.mu st.length 0]))) loc:=by
  rw[uh];refine⟨Ch,Bo,cV.2 λr' yP=>?_,λr' yP=>?_,by simp[jb.len],jb.size,by simp[jb.uf],λi' r' LM h1 h2=>?_,.inr ⟨b,o,c,e,uJ,gY,gw,hle,by simpa using hlen,jl,eY⟩⟩;rcases acG yP with h|h;exact cV.1 jb.GF r' h;rw[h,agv];exact cV.1 jb.GF r (dR dJ);rcases acG yP with h|h;exact jb.Dd r' h;rw[h,<-uh];exact kC (jb.Dd r (dR dJ)) (by simp[AV.bw,AV.dj]) (by simp;omega);rw[abp]at h1;by_cases Md:i=i';subst Md;rw[ah rfl]at h1;split at h1;cases h1;rw[Mc]at h2;cases h2;refine⟨by rw[agv];exact mT.1,λj c v h3 h4=>?_⟩;rw[abp]at h3;by_cases Ws:k2=j;subst Ws;rw[ah rfl,ah HY]at h3;cases h3;rw[hx]at h4;cases h4;exact hmu;rw[U Ws]at h3;exact Sb.2 j c v h3 h4;cases h1;rw[U Md]at h1;have h3:=jb.uI i' r' LM h1 h2;exact⟨h3.1,λj c v h4 h5=>(h3.2 j c v h4 h5).jT Wq λ_ _=>⟨rfl,rfl⟩⟩
 refine⟨G',Wq,Dg hI1 (tG.refl w G') (gd _ _ _ Gm).symm (λ_ _ _ _ _ _ _ _=>⟨rfl,rfl⟩) uM hI1.nE,λb'=>?_,λ_ _=>rfl⟩;have h1:=w7 b' G'.ls (st++[dA.rows 0 ke fJ]) id loc _ loc (.rows ve sz (rows.set i (au r k2 [.mu st.length 0]))) Gm CW;rw[gd _ _ _ Gm]at h1;have h4:=uK b' rows loc.vals i r xs (au r k2 [.mu st.length 0]) xs dJ Mc;rw[gd _ _ _ Mc]at h4;have h5:=J4 b' r xs k2 _ (.mu st.length 0) _ hv hx;rw[<-uh]at h5;have h6:cR b' G'.ls (st++[dA.rows 0 ke fJ])=cR b' G.ls st+cR b' [loc'] [dA.rows 0 ke fJ]:=tH b' _ _ _ _ hI.len;have h7:cR b' [loc'] [dA.rows 0 ke fJ]<=gT b' (.raw ke fJ) (.slice (some a) fJ.length cap):=by
  simp only[cR,jm,gT,Cj b' fJ _ iI,loc',lY.jB,Nat.add_zero];by_cases VE:cap=0;simp[VE];simp[VE]
 have h8:gT b' (.mu st.length 0) (.slice (some a) fJ.length cap)=0:=by simp[gT]
 simp only[jm]at h1;omega
end Ax
namespace Ax
open Go
variable {P:Program}{w w':World}{G G':bD}{β iM:List nD}{ρ:Operand->Value}{o:Oper}
def kh(P:Program)(ρ:Operand->Value)(o:Oper)(w:World)(G:bD)(β:List nD)(st:ay)(bx:bG)(cO:Nat->Nat)(nb:Option Nat)(r:fL)(st':ay)(gX:bG):Prop:=
 ∃n v w' G' iM,(execOp ρ o).run P w=.ok n w'/\(n=.value v\/n=.skip/\v=undef)/\jZ w G β st bx cO w' G' iM st' gX r v/\fW nb β iM
theorem kh.nM{st:ay}{bx:bG}{cO:Nat->Nat}{nb:Option Nat}{r:fL}(hI:j8 w G st)(hB:kM w G β bx){u:Value}(h:(execOp ρ o).run P w=.ok (.value u) w)(hr:lf w G β r u)(hc:∀b,dg b r u<=cO b):kh P ρ o w G β st bx cO nb r st bx:=
 ⟨_,u,w,G,β,h,.inl rfl,jZ.nM hI hB hr hc,fW.refl _ _⟩
theorem kh.cS{st:ay}{bx:bG}{cO:Nat->Nat}{nb:Option Nat}{a:AV}(hI:j8 w G st)(hB:kM w G β bx){u:Value}(h:(execOp ρ o).run P w=.ok (.value u) w)(hr:bF w G a u)(hn:a.cS=true):kh P ρ o w G β st bx cO nb (.val a) st bx:=
 kh.nM hI hB h hr λb=>by simp only[dg,fV b a u hn];omega
variable{xs:List Value}{rows:List (List AV)}
theorem lN.PL{vals:List fL}{vs:List AV}(h:lN w G β vals xs)(hv:jP vals=some vs):cU w G vs xs/\∀b,mS b vals xs=cL b vs xs:=by
 obtain⟨e1,e2,e3⟩:=h.vals hv;exact⟨⟨e2,e3⟩,λb=>by rw[e1,DR]⟩
theorem Ai(h:rows.all AV.bw=true):∀r∈rows,AV.bw r=true:=by simpa using h
theorem J6(h:rows.all AV.ax=true):∀r∈rows,AV.ax r=true:=by simpa using h
theorem Aj{sz:Nat}{p:AV->Prop}:∀(qs:List Nat)(vs:List AV)(rows fJ:List (List AV)),(∀r∈rows,∀c∈r,p c)->(∀v∈vs,∀c∈v.cells,p c)->iu sz rows qs vs=some fJ->∀r∈fJ,∀c∈r,p c
 |[],[],rows,fJ,hr,_,h=>by simp[iu]at h;subst h;exact hr|[],_::_,_,_,_,_,h=>by simp[iu]at h|_::_,[],_,_,_,_,h=>by simp[iu]at h|i::qs,v::vs,rows,fJ,hr,hv,h=>by
  simp only[iu]at h;split at h;refine Aj qs vs _ fJ (λr hm=>?_) (λu hu=>hv u (by simp[hu])) h;rcases acG hm with h1|h1;exact hr r h1;rw[h1];exact hv v (by simp);cases h
theorem J7{v:AV}(h:v.cS=true):∀c∈v.cells,c.cS=true:=by
 cases v<;>simp_all [AV.cells,AV.cS];exact(dm _).1 h
theorem J8(vs:List AV):∀v∈AV.cW vs,v.cS=true:=(dm _).1 (iD vs)
theorem Ed{x:Option Operand}{d a:Int}{vals xu:List fL}(h:tC x.isSome d vals=some (a,xu))(hR:lN w G β vals (x.toList.map ρ++xs)):zp ρ x d a/\lN w G β xu xs:=by
 unfold tC at h;cases x with
 |none=>simp at h;obtain⟨rfl,rfl⟩:=h;exact⟨.inl ⟨rfl,rfl⟩,by simpa using hR⟩|some y=>
  simp only[Option.isSome_some,aQ]at h;split at h;rename_i n r;cases h;simp only[ah7,abn,List.map_nil,List.cons_append,adn,lN,lf]at hR;exact⟨.inr ⟨y,rfl,hR.1.iz⟩,hR.2⟩;cases h
theorem ye{c:Call}{t u:TypeId}(h2:c.argTypes.size=2)(h0:c.argTypes[0]?=some t)(h1:c.argTypes[1]?=some u):c.argTypes = #[t,u]:=by
 apply Array.ext_getElem?;intro i;match i with
 |0=>simpa using h0|1=>simpa using h1|i+2=>simp;omega
section
variable {S:Nat->Option aL}{so:aR}{vals:List fL}{wl aa:Nat}{st st':ay}{bx gX:bG}{cO:Nat->Nat}{r:fL}
theorem Wt{t:TypeId}{x:Operand}{lo hi mx:Option Operand}{wV:Bool}{sz:Nat}(ho:o.op=.slice t x lo hi mx)(hmh:mx.isSome=true->hi.isSome=true)
  (hu:match P.underlying t with|some (.slice e)=>(!wV&&di P e sz)=true|some .string=>(wV && !mx.isSome)=true|_=>False)(hI:j8 w G st)(hB:kM w G β bx)
  (hR:lN w G β vals ((yb x lo hi mx).map ρ)) (hcO:∀b,mS b vals ((yb x lo hi mx).map ρ)<=cO b) (ha:bn wl aa (.slice wV lo.isSome hi.isSome mx.isSome sz) vals st bx=some (r,st',gX)) :
  kh P ρ o w G β st bx cO none r st' gX:=by
 simp only[yb,abn,List.map_append]at hR;unfold bn at ha;simp only at ha;split at ha;rename_i a l;obtain⟨VF,Wu⟩:=hR;simp only[lf]at VF;split at ha;cases ha;rename_i n hn;split at ha;cases ha;rename_i lov l1 VG;obtain⟨Ij,hR1⟩:=Ed VG (xs:=hi.toList.map ρ++mx.toList.map ρ) (by simpa [aeF] using Wu);split at ha;cases ha;rename_i hiv l2 hhi;obtain⟨Ik,hR2⟩:=Ed hhi hR1;split at ha;rename_i hmx;have ajn:mx=none:=by cases mx<;>simp_all
 subst ajn;split at ha;rename_i v hv;cases ha;unfold ku at hv;split at hv;rename_i s;split at hv;rename_i hc;simp only[aac,aK]at hc;obtain⟨⟨⟨_,h0⟩,h1⟩,h2⟩:=hc;cases hv;simp only[aQ,oK,bh]at hn;subst hn;have hus:P.underlying t=some .string:=by
  split at hu;simp at hu
  assumption
  exact hu.elim
 obtain⟨u,e1,e2⟩:=L4 ho hus VF Ij Ik h0 h1 h2;exact kh.cS hI hB e1 e2 rfl;cases hv;simp only[agw]at hv;split at hv;rename_i hc;simp only[aac,aK]at hc;obtain⟨rfl,rfl⟩:=hc;cases hv;simp only[oK,ff]at hn;cases hn;split at hu;rename_i e Il;simp only[aac]at hu;exact kh.cS hI hB (DZ ho Il hu.2 VF Ij Ik (.inl rfl)) .af rfl;simp at hu;exact hu.elim;cases hv;simp only[agw]at hv;split at hv;rename_i hc;simp only[aac,aK]at hc;obtain⟨rfl,rfl⟩:=hc;cases hv;simp only[oK,ff]at hn;cases hn;split at hu;rename_i e Il;simp only[aac]at hu;obtain⟨u,e1,e2⟩:=Ci ho Il hu.2 VF Ij Ik (.inl rfl);exact kh.cS hI hB e1 e2 rfl;simp at hu;exact hu.elim;cases hv;rename_i s rows;simp only at hv;split at hv;rename_i hc;simp only[aac,aK]at hc;obtain⟨⟨⟨rfl,h0⟩,h1⟩,h2⟩:=hc;cases hv;simp only[oK,ff]at hn;cases hn;split at hu;rename_i e Il;simp only[aac]at hu;obtain⟨u,e1,e2⟩:=DY ho Il hu.2 VF Ij Ik h0 h1 h2;exact kh.cS hI hB e1 e2 rfl;simp at hu;exact hu.elim;cases hv;rename_i s rows;simp only at hv;split at hv;rename_i hc;simp only[aac,aK]at hc;obtain⟨⟨⟨rfl,h0⟩,h1⟩,h2⟩:=hc;cases hv;simp only[oK,ff]at hn;cases hn;split at hu;rename_i e Il;simp only[aac]at hu;obtain⟨u,e1,e2⟩:=DY ho Il hu.2 VF.ai Ij Ik h0 h1 h2;exact kh.cS hI hB e1 e2 rfl;simp at hu;exact hu.elim;cases hv;cases hv;cases ha;rename_i m hmx;obtain⟨z,rfl⟩:∃z,mx=some z:=by cases mx<;>simp_all
 simp only[ah7,abn,List.map_nil,lN,lf]at hR2;have hz:=hR2.1.iz;split at ha;rename_i v hv;cases ha;unfold ku at hv;split at hv;simp at hv;simp only at hv;split at hv;rename_i hc;simp only[aac,aK,cz]at hc;obtain⟨⟨rfl,rfl⟩,rfl⟩:=hc;cases hv;simp only[oK,ff]at hn;cases hn;split at hu;rename_i e Il;simp only[aac]at hu;exact kh.cS hI hB (DZ ho Il hu.2 VF Ij Ik (.inr ⟨z,rfl,hmh rfl,hz⟩)) .af rfl;simp at hu;exact hu.elim;cases hv;simp only at hv;split at hv;rename_i hc;simp only[aac,aK,cz]at hc;obtain⟨⟨rfl,rfl⟩,rfl⟩:=hc;cases hv;simp only[oK,ff]at hn;cases hn;split at hu;rename_i e Il;simp only[aac]at hu;obtain⟨u,e1,e2⟩:=Ci ho Il hu.2 VF Ij Ik (.inr ⟨z,rfl,hmh rfl,hz⟩);exact kh.cS hI hB e1 e2 rfl;simp at hu;exact hu.elim;cases hv;rename_i s rows;simp only at hv;split at hv;rename_i hc;simp only[aac,aK]at hc;obtain⟨⟨rfl,rfl⟩,rfl⟩:=hc;cases hv;simp only[oK,ff]at hn;cases hn;split at hu;rename_i e Il;simp only[aac]at hu;obtain⟨u,e1,e2⟩:=D0 ho Il hu.2 VF Ij Ik (hmh rfl) hz;exact kh.cS hI hB e1 e2 rfl;simp at hu;exact hu.elim;cases hv;rename_i s rows;simp only at hv;split at hv;rename_i hc;simp only[aac,aK]at hc;obtain⟨⟨rfl,rfl⟩,rfl⟩:=hc;cases hv;simp only[oK,ff]at hn;cases hn;split at hu;rename_i e Il;simp only[aac]at hu;obtain⟨u,e1,e2⟩:=D0 ho Il hu.2 VF.ai Ij Ik (hmh rfl) hz;exact kh.cS hI hB e1 e2 rfl;simp at hu;exact hu.elim;cases hv;cases hv;cases ha;cases ha;cases ha
end
end Ax
