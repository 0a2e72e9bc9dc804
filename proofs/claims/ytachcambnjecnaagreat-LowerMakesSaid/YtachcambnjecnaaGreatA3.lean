/- Part of a proof. -/
import Derived.Test.YtachcambnjecnaaGreatA2
import Derived.IntWalk

namespace Ax
open Go
variable {P:Program}{w w':World}{G G':bp}{β gZ:List nh}{ρ:Operand->Value}{o:Oper}
theorem w9{st:aj}{bx:bF}{cO:Nat->Nat}(hI:jQ w G st)(hB:lH w G β bx)(hX:∀b,cO b+gW b β bx+cA b G.ls st<=1){id:Nat}{loc loc':mC}{ob Ir:dz}{e:fq}{v:Value}
  (hl:G.ls[id]?=some loc)(iu:st[id]?=some ob)(hs:sJ w G w' G')(Fj:G'.ls=G.ls.set id loc')(vk:qZ w' G' Ir loc')(ht:∀b p,G'.mN b=some p->b<w'.heap.size)
  (IQ:∀b,b<w.heap.size->loc.jF≠some b->eS w G w' G' b) (Qc:w.heap.size<=w'.heap.size) (My:w'.os=w.os) (zu:w'.output=w.output) (fR:kQ w' G' β e v)
  (hc:∀b,cM b e v+je b loc' Ir<=cO b+je b loc ob+(if w.heap.size<=b then 1 else 0)):kB w G β st bx cO w' G' β (st.set id Ir) bx e v:=by
 have gT:∀b,loc.jF=some b->je b loc ob ≥ 1:=by
  intro b hb;cases ob<;>simp[je,hb]
 refine⟨hs,CA hI hs Fj (λi l Yp b hi h1 h2 h3=>?_) vk ht,ny hB hs λb hb=>?_,fR,λb=>?_,λb hb aX=>?_,Qc,My,zu⟩;refine IQ b ((hI.aU i Yp l h2 h1).held h3) λhb=>?_;have h4:=gT b hb;have h5:=IK b G.ls st i id l Yp loc ob hi h1 h2 hl iu;have:=hX b;omega;refine IQ b (hB.held hb) λoG=>?_;have h4:=gT b oG;have h5:=pK b G.ls st id loc ob hl iu;have:=hX b;omega;have h1:=vL b G.ls st id loc ob loc' Ir hl iu;have h2:=hc b;rw[Fj];omega;refine IQ b aX λoG=>?_;have h4:=gT b oG;have h5:=pK b G.ls st id loc ob hl iu;omega
theorem vJ.flat{sz:Nat}{rows:List (List AV)}{loc:mC}(h:vJ w G sz rows loc):cG w G rows.flatten loc.vals.flatten/\(∀b,cv b rows.flatten loc.vals.flatten=iP b rows loc.vals)/\(∀r∈loc.vals,r.length=sz)/\
  ∀b off,(∀(i:Nat) xs (j:Nat) x,loc.vals[i]?=some xs->xs[j]?=some x->w.cell? ⟨b,off+(i*sz+j),none⟩=some x)->∀(k:Nat) x,loc.vals.flatten[k]?=some x->w.cell? ⟨b,off+k,none⟩=some x:=by
 have MD:∀r∈loc.vals,r.length=sz:=λr hr=>by
  obtain⟨i,hi,rfl⟩:=List.mem_iff_getElem.1 hr;have rW:i<rows.length:=by rw[<-h.tq];exact hi
  rw[<-(h.uc i rows[i] loc.vals[i] (List.getElem?_eq_getElem rW) (List.getElem?_eq_getElem hi)).1];exact dg.1 h.FJ _ (List.getElem_mem rW)
 refine⟨ug rows loc.vals h.tq.symm h.uc,λb=>zv b rows loc.vals h.tq.symm λi r xs h1 h2=>(h.uc i r xs h1 h2).1,MD,λb off hc k x hx=>?_⟩;obtain⟨i,j,r,rfl,e2,e3⟩:=pL loc.vals k x MD hx;exact hc i r j x e2 e3
theorem Qd{st:aj}{bx:bF}{cO:Nat->Nat}(hI:jQ w G st)(hB:lH w G β bx){sz:Nat}{a:Option Addr}(pg:a.isSome=true) :
  ∃G',kB w G β st bx cO w G' β (st++[.rows 0 sz []]) bx (.val (.mu st.length 0)) (.slice a 0 0):=by
 have IP:∀(id:Nat) loc,G.ls[id]?=some loc->∃loc',(G.ls++[⟨a,0,0,sz,0,false,[]⟩])[id]?=some loc'/\loc.cz<=loc'.cz/\(loc.cz=loc'.cz\/loc.mp=true->loc'.hd=loc.hd):=λid loc h=>
  ⟨loc,by rw[List.getElem?_append_left (List.getElem?_eq_some_iff.1 h).1];exact h,Nat.le_refl _,λ_=>rfl⟩
 have hs:sJ w G w ⟨G.ls++[⟨a,0,0,sz,0,false,[]⟩],G.mN⟩:=⟨λ_ _ h=>⟨rfl,h⟩,IP⟩;refine⟨⟨G.ls++[⟨a,0,0,sz,0,false,[]⟩],G.mN⟩,hs,⟨by simp[hI.len],λid ob loc h1 h2=>?_,hI.nO⟩,ny hB hs λb _=>⟨rfl,rfl⟩,.mu _ _ _ ⟨a,0,0,sz,0,false,[]⟩ ⟨_,_,_,rfl⟩ ?_ (Nat.le_refl _) λ_=>rfl,λb=>?_,λb _ _=>⟨rfl,rfl⟩,Nat.le_refl _,rfl,rfl⟩;by_cases Kp:id<st.length;rw[List.getElem?_append_left Kp]at h1;simp only at h2;rw[List.getElem?_append_left (by rw[hI.len];exact Kp)]at h2;exact(hI.aU id ob loc h1 h2).jK hs λb _=>⟨rfl,rfl⟩;rw[List.getElem?_append_right (by omega)]at h1;simp only at h2;rw[List.getElem?_append_right (by rw[hI.len];omega),hI.len]at h2;have h0:id-st.length=0:=by have:=(List.getElem?_eq_some_iff.1 h1).1;simp at this;omega
 rw[h0]at h1 h2;simp at h1 h2;subst h1;subst h2;exact⟨rfl,rfl,by simp[bL],by simp,rfl,rfl,rfl,λi r xs h=>by simp at h,.inl ⟨rfl,rfl,pg⟩⟩;simp only;rw[List.getElem?_append_right (by rw[hI.len];exact Nat.le_refl _),hI.len];simp;simp only[cM,gu];rw[sA b _ _ _ _ hI.len];have h0:cA b [⟨a,0,0,sz,0,false,[]⟩] [.rows 0 sz []]=0:=by simp[cA,je,mC.jF,iP]
 rw[h0];omega
structure acN (P:Program)(t tx ty e:TypeId)(sz bytes:Nat)(x:Value)(n:Nat)(news:List Value)(w:World):Prop where
 newsLen:news.length=n*sz
 CB:n=0->∀base jN nG,jN<=nG->(Builtin.append_ #[t,tx] ty #[.slice base jN nG,x]).run P w=.ok (.slice base jN nG) w
 cT:∀(b off jN nG:Nat) (fP:Array Value) (e0:TypeId),w.heap[b]?=some (.cells fP e0 (0,0))->jN+n<=nG->off+nG*sz<=fP.size->
  (Builtin.append_ #[t,tx] ty #[.slice (some ⟨b,off,none⟩) jN nG,x]).run P w=.ok (.slice (some ⟨b,off,none⟩) (jN+n) nG) (w.setRow b (ag fP.toList (off+jN*sz) news).toArray)
 new:∀(base:Option Addr) (jN nG:Nat) (olds:List Value),(Builtin.firstCells sz jN (.slice base jN nG)).run P w.drew=.ok olds.toArray w.drew->olds.length=jN*sz->nG<jN+n->(jN+n)*bytes<=140737488355328->
  ∃cap c,(Builtin.append_ #[t,tx] ty #[.slice base jN nG,x]).run P w=.ok (.slice (some ⟨w.heap.size,0,none⟩) (jN+n) cap) (w.drew.alloc (.cells c e))/\jN+n<=cap/\cap*sz<=c.size/\
   ∀(k:Nat) v,(olds++news)[k]?=some v->c[k]?=some v
theorem Qe{t tx ty e:TypeId}{sz bytes:Nat}{i:TypeInfo}{z:Value}(h:KM P t tx e sz bytes i z){x:Value}{n:Nat}{news:List Value}(hs:Go.Src P sz tx x n news w):acN P t tx ty e sz bytes x n news w where
 newsLen:=hs.newsLen
 CB:=λh0 base jN nG hle=>by
  subst h0;have hn:news=[]:=List.eq_nil_of_length_eq_zero (by simpa using hs.newsLen);subst hn;exact run_append_nothing w t tx ty e i h.ht h.hi base jN nG hle x (by rw[h.dH];exact hs)
 cT:=λb off jN nG fP e0 hg h1 h2=>ru h b off jN nG fP e0 hg x n news hs h1 h2
 new:=λbase jN nG olds hold Uo hg hb=>ry h base jN nG olds hold Uo x n news hs hg hb
theorem Yq{t tx ty e:TypeId}{sz bytes:Nat}{st:aj}{bx:bF}(hI:jQ w G st)(hB:lH w G β bx){cO:Nat->Nat}(hX:∀b,cO b+gW b β bx+cA b G.ls st<=1)
  {s:AV}{vs vx:Value}(hs:bC w G s vs){new:List (List AV)}{news:List Value}(fR:cG w G new.flatten news)(xV:acN P t tx ty e sz bytes vx new.length news w)(kC:∀r∈new,AV.bq r=true)(jy:∀r∈new,AV.eZ r=true)
  {wl af:Nat} {bV:aj} {gD:bF} {r:fq} (ha:vD wl af sz bytes s new st bx=some (r,bV,gD)) :
  ∃v w' G',(Builtin.append_ #[t,tx] ty #[vs,vx]).run P w=.ok v w'/\kB w G β st bx cO w' G' β bV gD r v:=by
 unfold vD at ha
 ·split at ha
  ·rename_i cL;have TU:∀b xs,cv b new.flatten xs=0:=λb xs=>eF b _ _ ((de _).2 λx hx=>by
    obtain⟨r,hr,hx⟩:=List.mem_flatten.1 hx;exact(de r).1 (jy r hr) x hx)
   have sP:new=[]->news=[]:=λh0=>by
    subst h0;have:=fR.1;simp at this;exact List.eq_nil_of_length_eq_zero this.symm
   have fresh:∀base,(Builtin.firstCells sz 0 (.slice base 0 0)).run P w.drew=.ok ([]:List Value).toArray w.drew->new.length*bytes<=cT->(new=[]->base.isSome=true)->
     ∃v w' G',(Builtin.append_ #[t,tx] ty #[.slice base 0 0,vx]).run P w=.ok v w'/\kB w G β st bx cO w' G' β (st++[.rows 0 sz new]) bx (.val (.mu st.length 0)) v:=by
    intro base hf hr Yr;by_cases jn:new=[];have:=sP jn;subst this;subst jn;have:=xV.CB rfl base 0 0 (Nat.le_refl _);obtain⟨G',hA⟩:=Qd (w:=w) (G:=G) (β:=β) (cO:=cO) (sz:=sz) (a:=base) hI hB (Yr rfl);exact⟨_,_,_,this,hA⟩;have hn:0<new.length:=List.length_pos_iff.2 jn;obtain⟨cap,c,e1,e2,e3,e4⟩:=xV.new base 0 0 [] hf (by simp) (by omega) (by simpa [cT] using hr);simp only[Nat.zero_add,List.nil_append]at e1 e2 e4;obtain⟨G',hA,_⟩:=vO (w':=w.drew.alloc (.cells c e)) (cO:=cO) hI hB rfl rfl rfl cL kC fR (by omega) e3 e2 e4 (λb=>by rw[TU];omega);exact⟨_,_,G',e1,hA⟩
   split at ha;split at ha;rename_i AQ;cases ha;have h0:new=[]:=(by simpa using AQ);have:=sP h0;subst this;subst h0;cases hs;have:=xV.CB rfl none 0 0 (Nat.le_refl _);exact⟨_,_,_,this,kB.nR hI hB (bC.U) λb=>by simp[cM,gu]⟩;split at ha;rename_i hr;cases ha;cases hs;exact fresh none (run_firstCells_none _ _ _ _ _) hr λh=>absurd h (by rename_i AQ;simpa using AQ);cases ha;split at ha;rename_i hr;cases ha;cases hs with
   |mL a=>exact fresh (some a) (by simp[Builtin.firstCells,loadCells,loadCellsFrom]) hr λ_=>rfl
   cases ha
   ·rename_i id cz;split at ha
    ·rename_i v lF kL iu;split at ha
     ·rename_i hc;simp only[Bool.and_eq_true,decide_eq_true_eq]at hc;obtain⟨⟨⟨⟨rfl,rfl⟩,hr⟩,_⟩,_⟩:=hc;cases ha;obtain⟨loc,hl,E6,Ce,jv⟩:=hI.loc iu;cases hs with
      |mu _ _ _ loc' hp sL FH he=>
      rw[hl]at sL;cases sL;have cY:=he (by omega);subst cY;obtain⟨KO,hfc,hfv,Qf⟩:=jv.flat;have IP:∀l':mC,l'.cz=v+1->∀(i:Nat) l,G.ls[i]?=some l->∃l'',(G.at id l').ls[i]?=some l''/\l.cz<=l''.cz/\(l.cz=l''.cz\/l.mp=true->l''.hd=l.hd):=λl' hv=>
       G8 hl (by omega) λh=>by rcases h with h|h<;>simp_all<;>omega
      have Kr:∀l':mC,(G.at id l').ls[id]?=some l':=λl'=>by
       simp only[bp.at];rw[List.getElem?_set,if_pos rfl,if_pos (List.getElem?_eq_some_iff.1 hl).1]
      by_cases jn:new=[];have:=sP jn;subst this;subst jn;have hle:loc.len<=loc.cap:=by
       rcases jv.sM with⟨h0,h1,_⟩|⟨b,off,c,e',AN,g8,iC,dH,hlen,jz,fA⟩;rw[jv.len,h1];simp;rw[jv.len];exact hlen
      have:=xV.CB rfl loc.a loc.len loc.cap hle;have Cg:sJ w G w (G.at id { loc with cz:=v+1 }):=⟨λ_ _ h=>⟨rfl,h⟩,IP _ rfl⟩;refine⟨_,_,G.at id { loc with cz:=v+1 },this,w9 hI hB hX hl iu Cg rfl ?_ hI.nO (λb _ _=>⟨rfl,rfl⟩) (Nat.le_refl _) rfl rfl (.mu _ _ _ { loc with cz:=v+1 } ⟨_,_,_,rfl⟩ (Kr _) (Nat.le_refl _) λ_=>rfl) λb=>?_⟩;have:=(qZ.jK (w':=w) (G':=G.at id { loc with cz:=v+1 }) (show qZ w G (.rows v lF kL) loc from⟨E6,Ce,jv⟩) Cg λb _=>⟨rfl,rfl⟩);obtain⟨_,_,h3⟩:=this;rw[List.append_nil];exact⟨E6,rfl,h3.FJ,h3.E5,h3.len,h3.size,h3.tq,h3.uc,h3.sM⟩;simp only[cM,gu,List.append_nil];show 0+je b loc (.rows v lF kL)<=cO b+je b loc (.rows v lF kL)+_;omega;have hn:0<new.length:=List.length_pos_iff.2 jn;have kA:=BA jv.FJ cL;have yg:(kL++new).flatten=kL.flatten++new.flatten:=List.flatten_append;have Uo:loc.vals.flatten.length=kL.length*lF:=(by rw[<-KO.1];exact gx kL (dg.1 jv.FJ));have Qb:news.length=new.length*lF:=xV.newsLen;by_cases mE:kL.length+new.length<=loc.cap;rcases jv.sM with⟨h0,h1,_⟩|⟨b,off,c,e',AN,g8,iC,dH,hlen,jz,fA⟩;omega;have hle:off+kL.length*lF+news.length<=c.size:=by
       rw[Qb];have:(kL.length+new.length)*lF<=loc.cap*lF:=Nat.mul_le_mul_right _ mE;rw[Nat.add_mul]at this;omega
      have e1:=xV.cT b off kL.length loc.cap c e' iC mE dH;rw[AN,jv.len];have acO:=IP ⟨some ⟨b,off,none⟩,loc.cap,(kL++new).length,lF,v+1,false,rX lF (kL++new).length (loc.vals.flatten++news)⟩ rfl;have hW:Wr w G (w.setRow b (ag c.toList (off+kL.length*lF) news).toArray) ⟨(G.at id ⟨some ⟨b,off,none⟩,loc.cap,(kL++new).length,lF,v+1,false,rX lF (kL++new).length (loc.vals.flatten++news)⟩).ls,λb'=>if b'=b then some 0 else G.mN b'⟩ b:=
       G9 iC hle jz (Nat.zero_le _) (Nat.le_refl _) acO
      have gT:loc.jF=some b:=(by unfold mC.jF;rw[if_neg (by omega),AN];rfl);refine⟨_,_,⟨(G.at id ⟨some ⟨b,off,none⟩,loc.cap,(kL++new).length,lF,v+1,false,rX lF (kL++new).length (loc.vals.flatten++news)⟩).ls,λb'=>if b'=b then some 0 else G.mN b'⟩,e1,?_⟩;refine w9 hI hB hX hl iu hW.jK rfl ⟨rfl,rfl,rm (b:=b) (off:=off) (c:=(ag c.toList (off+kL.length*lF) news).toArray) (e:=e') (xs:=loc.vals.flatten++news) kA (qu jv.E5 kC) ?_ rfl rfl rfl rfl g8 (setRow_heap w b c _ e' (0,0) iC) (by rw[List.size_toArray,eW];simpa using dH) (by simpa using mE) (by simp) λk x hk=>?_⟩
       (hW.nO hI) (λb' _ oG=>hW.kZ λe=>oG (by rw[gT,e])) (by simp) rfl rfl (.mu _ _ _ _ ⟨_,_,_,rfl⟩ (Kr _) (Nat.le_refl _) λ_=>by simp) λb'=>?_
      rw[yg];refine(KO.mono hW.jK λb' oG=>hW.kZ λe=>?_).append (fR.mono hW.jK λb' oG=>by rw[TU]at oG;omega);subst e;rw[hfc]at oG;have h1:=hX b';have h2:=pK b' G.ls st id loc _ hl iu;simp only[je,gT,if_true]at h2;omega;rw[vQ iC hle];by_cases KN:k<loc.vals.flatten.length;rw[List.getElem?_append_left KN]at hk;rw[if_neg (by omega)];exact Qf b off fA k x hk;rw[List.getElem?_append_right (by omega)]at hk;have aX:=(List.getElem?_eq_some_iff.1 hk).1;rw[if_pos (by omega),show off+k-(off+kL.length*lF)=k-loc.vals.flatten.length by omega];exact hk;have Qg:(⟨some ⟨b,off,none⟩,loc.cap,(kL++new).length,lF,v+1,false,rX lF (kL++new).length (loc.vals.flatten++news)⟩:mC).jF=loc.jF:=by
       rw[gT];unfold mC.jF;rw[if_neg (show ¬loc.cap=0 by omega)];rfl
      simp only[cM,gu,je];rw[Qg,uf b' (kL++new) _ (dg.1 kA) (by rw[yg,List.length_append,List.length_append,KO.1,fR.1]),yg,gK b' _ _ _ _ KO.1,TU,hfc];omega;have hf:(Builtin.firstCells lF loc.len (.slice loc.a loc.len loc.cap)).run P w.drew=.ok loc.vals.flatten.toArray w.drew:=by
       rcases jv.sM with⟨h0,h1,_⟩|⟨b,off,c,e',AN,g8,iC,dH,hlen,jz,fA⟩;have:loc.vals=[]:=by
        have:=jv.tq;rw[h1]at this;exact List.eq_nil_of_length_eq_zero (by simpa using this)
       rw[jv.len,h1,this];cases loc.a<;>simp[Builtin.firstCells,loadCells,loadCellsFrom];rw[AN,jv.len];exact run_firstCells_some w.drew lF kL.length ⟨b,off,none⟩ kL.length loc.cap _ Uo (λj v hj=>by rw[mO,FU];exact Qf b off fA j v hj)
      obtain⟨N8,c,e1,e2,e3,e4⟩:=xV.new loc.a loc.len loc.cap loc.vals.flatten hf (by rw[Uo,jv.len]) (by rw[jv.len];omega) (by rw[jv.len];exact hr);rw[jv.len,<-List.length_append]at e2;have hcp:0<N8:=(by rw[List.length_append]at e2;omega);have hw:(w.drew.alloc (.cells c e)).heap=w.heap.push (.cells c e):=rfl;have hlN:(G.new w.heap.size (some 0) []).ls[id]?=some loc:=(by simp only[bp.new,List.append_nil];exact hl);have Cg:sJ w G (w.drew.alloc (.cells c e)) ((G.new w.heap.size (some 0) []).at id ⟨some ⟨w.heap.size,0,none⟩,N8,(kL++new).length,lF,v+1,false,rX lF (kL++new).length (loc.vals.flatten++news)⟩):=
       (sB hw (some 0) []).trans (P9 hlN (by simp;omega) λh=>by rcases h with h|h<;>simp_all<;>omega)
      refine⟨_,_,_,e1,w9 hI hB hX hl iu Cg (loc':=⟨some ⟨w.heap.size,0,none⟩,N8,(kL++new).length,lF,v+1,false,rX lF (kL++new).length (loc.vals.flatten++news)⟩) (by simp only[bp.at,bp.new,List.append_nil]) ⟨rfl,rfl,rm (b:=w.heap.size) (off:=0) (c:=c) (e:=e) (xs:=loc.vals.flatten++news) kA (qu jv.E5 kC) ?_ rfl rfl rfl rfl hcp (tu hw) (by simpa using e3) e2 (by simp[bp.at,bp.new]) λk x hk=>?_⟩
       (λb p hp=>?_) (λb hb _=>?_) (by rw[hw];simp) rfl rfl (.mu _ _ _ _ ⟨_,_,_,rfl⟩ (by simp only[bp.at];rw[List.getElem?_set,if_pos rfl,if_pos (List.getElem?_eq_some_iff.1 hlN).1]) (Nat.le_refl _) λ_=>by simp[jv.len]) λb'=>?_⟩
      rw[yg];exact(KO.mono Cg λb' oG=>iy (G:=G) hw (some 0) [] (KO.held oG)).append (fR.mono Cg λb' oG=>by rw[TU]at oG;omega);rw[Nat.zero_add];exact Dg hw (e4 k x hk);simp only[bp.at,bp.new]at hp;rw[hw,Array.size_push];split at hp;omega;have:=hI.nO b p hp;omega;exact iy (G:=G) hw (some 0) [] hb;have Qg:(⟨some ⟨w.heap.size,0,none⟩,N8,(kL++new).length,lF,v+1,false,rX lF (kL++new).length (loc.vals.flatten++news)⟩:mC).jF=some w.heap.size:=by
       unfold mC.jF;rw[if_neg (show ¬N8=0 by omega)];rfl
      simp only[cM,gu,je];rw[Qg,uf b' (kL++new) _ (dg.1 kA) (by rw[yg,List.length_append,List.length_append,KO.1,fR.1]),yg,gK b' _ _ _ _ KO.1,TU,hfc];simp only[Option.some.injEq];by_cases hb:w.heap.size=b';subst hb;rw[if_pos (Nat.le_refl _)];simp;omega;rw[if_neg hb];omega
     cases ha
    cases ha
   cases ha
  cases ha
theorem N9{t tx ty e:TypeId}{sz bytes:Nat}{i:TypeInfo}{z:Value}(h:KM P t tx e sz bytes i z){st:aj}{bx:bF}(hI:jQ w G st)(hB:lH w G β bx){cO:Nat->Nat}(hX:∀b,cO b+gW b β bx+cA b G.ls st<=1)
  {s x:AV}{vs vx:Value}(hs:bC w G s vs)(hx:bC w G x vx){wl af:Nat}{bV:aj}{gD:bF}{r:fq}(ha:aW wl af (.jx sz bytes) [.val s,.val x] st bx=some (r,bV,gD)) :
  ∃v w' G',(Builtin.append_ #[t,tx] ty #[vs,vx]).run P w=.ok v w'/\kB w G β st bx cO w' G' β bV gD r v:=by
 simp only[aW]at ha;split at ha;cases ha;rename_i new vk;by_cases cL:bL sz new=true;obtain⟨news,fR,xV,kC,jy,_⟩:=FR hI hx vk cL h.kind;exact Yq hI hB hX hs fR (Qe h xV) kC jy ha;unfold vD at ha;rw[if_neg cL]at ha;cases ha
end Ax
namespace Ax
open Go
variable {P:Program}{w w':World}{G G':bp}{β gZ:List nh}{ρ:Operand->Value}{o:Oper}
theorem zw{st:aj}(hI:jQ w G st){id cz i k sz:Nat}{v:Value}{rows:List (List AV)}{r:List AV}(hp:bC w G (.ptr id cz i k) v)(iu:st[id]?=some (.rows cz sz rows))(hr:rows[i]?=some r) :
  ∃loc b off c e xs,G.ls[id]?=some loc/\loc.mp=false/\loc.cz=cz/\vJ w G sz rows loc/\v=.pointer (some ⟨b,off+(i*sz+k),none⟩)/\loc.a=some ⟨b,off,none⟩/\0<loc.cap/\loc.jF=some b/\
   w.heap[b]?=some (.cells c e (0,0))/\off+loc.cap*sz<=c.size/\rows.length<=loc.cap/\G.mN b=some 0/\loc.vals[i]?=some xs/\cG w G r xs/\
   ∀(i:Nat) xs (j:Nat) x,loc.vals[i]?=some xs->xs[j]?=some x->w.cell? ⟨b,off+(i*sz+j),none⟩=some x:=by
 obtain⟨loc,hl,E6,Ce,jv⟩:=hI.loc iu;cases hp with
 |ptr _ _ _ _ _ loc' hpp sL hv he=>
 rw[hl]at sL;cases sL;obtain⟨a,AN,rfl⟩:=he Ce.symm;rcases jv.sM with⟨_,sP,_⟩|⟨b,off,c,e',KH,g8,iC,hle,hlen,jz,fA⟩;subst sP;simp at hr;rw[KH]at AN;cases AN;have hi:i<loc.vals.length:=by rw[jv.tq];exact(List.getElem?_eq_some_iff.1 hr).1
 have hv:=List.getElem?_eq_getElem hi;exact⟨loc,b,off,c,e',loc.vals[i],hl,E6,Ce,jv,by rw[jv.size],KH,g8,by unfold mC.jF;rw[if_neg (by omega),KH];rfl,iC,hle,hlen,jz,hv,jv.uc i r _ hr hv,fA⟩
theorem jV{as vs:List AV}(h:AV.bq as=true)(k:AV.bq vs=true){n:Nat}(hn:n+vs.length<=as.length):AV.bq (ag as n vs)=true:=by
 rw[jU _ _ _ hn];simp only[AV.bq,List.all_eq_true,List.mem_append]at *;intro x hx;rcases hx with (hx|hx)|hx;exact h x (List.mem_of_mem_take hx);exact k x hx;exact h x (List.mem_of_mem_drop hx)
theorem Up{t:TypeId}{x y:Operand}{n:Nat}(ho:o.op=.store t x y)(hn:dD P t n=true){st:aj}{bx:bF}(hI:jQ w G st)(hB:lH w G β bx){cO:Nat->Nat}(hX:∀b,cO b+gW b β bx+cA b G.ls st<=1)
  {p v:AV}(hp:bC w G p (ρ x))(hv:bC w G v (ρ y))(jO:∀b,gu b v (ρ y)<=cO b){wl af:Nat}{bV:aj}{gD:bF}{r:fq}(ha:aW wl af (.store n) [.val p,.val v] st bx=some (r,bV,gD)) :
  ∃w' G',(execOp ρ o).run P w=.ok .skip w'/\kB w G β st bx cO w' G' β bV gD r undef:=by
 simp only[aW]at ha;split at ha;rename_i lp;simp only[Bool.and_eq_true,decide_eq_true_eq]at lp;obtain⟨Uq,Fk⟩:=lp;split at ha;rename_i kM hw;cases ha;unfold cu at hw;split at hw;rename_i id cz i k;split at hw;rename_i ve sz rows iu;split at hw;rename_i GZ;simp only[Bool.and_eq_true,decide_eq_true_eq]at GZ;obtain⟨rfl,_⟩:=GZ;split at hw;rename_i row cZ;split at hw;rename_i cL;cases hw;obtain⟨loc,b,off,c,e,xs,hl,E6,Ce,jv,He,AN,g8,gT,iC,hle,hlen,jz,KP,mF,fA⟩:=zw hI hp iu cZ;obtain⟨CC,Mt⟩:=hv.cells;have nj:row.length=sz:=dg.1 jv.FJ row (dn cZ);have hxl:xs.length=sz:=by rw[<-mF.1];exact nj
 have hi:i<rows.length:=(List.getElem?_eq_some_iff.1 cZ).1;have FX:(ρ y).cells.toList.length=v.cells.length:=CC.1.symm;have P8:=CC.Yk Fk;have IS:off+(i*sz+k)+(ρ y).cells.toList.length<=c.size:=by
  have h1:(i+1)*sz<=loc.cap*sz:=Nat.mul_le_mul_right _ (by omega);rw[Nat.succ_mul]at h1;omega
 have Fl:=lQ (P:=P) b (off+(i*sz+k)) e (ρ y).cells.toList c w iC IS P8;have IP:=G8 (loc':={ loc with vals:=loc.vals.set i (ag xs k (ρ y).cells.toList) }) hl (Nat.le_refl _) λ_=>rfl;have hW:Wr w G (w.setRow b (ag c.toList (off+(i*sz+k)) (ρ y).cells.toList).toArray) ⟨(G.at id { loc with vals:=loc.vals.set i (ag xs k (ρ y).cells.toList) }).ls,λb'=>if b'=b then some 0 else G.mN b'⟩ b:=
  G9 iC IS jz (Nat.zero_le _) (Nat.le_refl _) IP
 have mh:cO b=0/\iP b rows loc.vals=0:=by
  have h1:=hX b;have h2:=pK b G.ls st id loc _ hl iu;simp only[je,gT,if_true]at h2;omega
 refine⟨_,⟨(G.at id { loc with vals:=loc.vals.set i (ag xs k (ρ y).cells.toList) }).ls,λb'=>if b'=b then some 0 else G.mN b'⟩,?_,w9 hI hB hX hl iu hW.jK rfl ⟨E6,Ce,?_⟩ (hW.nO hI) (λb' _ oG=>hW.kZ λe=>oG (by rw[gT,e])) (by simp) rfl rfl trivial λb'=>?_⟩;have dH:(ρ y).cells.size=n:=by rw[<-Uq,CC.1];simp
 simp only[execOp,ho,He,Sem.run_bind,Instr.storeAt,Instr.sureAddr,Sem.run_pure,Result.andThen_ok,storeVar,fo hn,dH,ne_eq,not_true_eq_false,if_false,Fl];have acP:cG (w.setRow b (ag c.toList (off+(i*sz+k)) (ρ y).cells.toList).toArray) ⟨(G.at id { loc with vals:=loc.vals.set i (ag xs k (ρ y).cells.toList) }).ls,λb'=>if b'=b then some 0 else G.mN b'⟩ v.cells (ρ y).cells.toList:=
  CC.mono hW.jK λb' oG=>hW.kZ λe=>by
   subst e;rw[Mt]at oG;have:=jO b';omega
 have hold:∀(i':Nat) r' Ks,rows[i']?=some r'->loc.vals[i']?=some Ks->cG (w.setRow b (ag c.toList (off+(i*sz+k)) (ρ y).cells.toList).toArray) ⟨(G.at id { loc with vals:=loc.vals.set i (ag xs k (ρ y).cells.toList) }).ls,λb'=>if b'=b then some 0 else G.mN b'⟩ r' Ks:=λi' r' Ks h1 h2=>
  (jv.uc i' r' Ks h1 h2).mono hW.jK λb' oG=>hW.kZ λe=>by
   subst e;have:=w8 b' rows loc.vals i' r' Ks h1 h2;omega
 refine⟨dg.2 λr' xU=>?_,λr' xU=>?_,by simp[jv.len],jv.size,by simp[jv.tq],λi' r' Ks h1 h2=>?_,.inr ⟨b,off,_,e,AN,g8,setRow_heap w b c _ e (0,0) iC,by rw[List.size_toArray,eW];simpa using hle,by simpa using hlen,by simp,λi' Ks j z h1 h2=>?_⟩⟩;rcases List.mem_or_eq_of_mem_set xU with h|h;exact dg.1 jv.FJ r' h;rw[h,eW];exact nj;rcases List.mem_or_eq_of_mem_set xU with h|h;exact jv.E5 r' h;rw[h];exact jV (jv.E5 row (dn cZ)) Fk cL;simp only at h2;rw[List.getElem?_set]at h1 h2;by_cases KQ:i=i';subst KQ;rw[if_pos rfl,if_pos hi]at h1;rw[if_pos rfl,if_pos (List.getElem?_eq_some_iff.1 KP).1]at h2;cases h1;cases h2;exact(hold i row xs cZ KP).ag acP cL;rw[if_neg KQ]at h1 h2;exact hold i' r' Ks h1 h2;simp only at h1;rw[vQ iC IS];rw[List.getElem?_set]at h1;by_cases KQ:i=i';subst KQ;rw[if_pos rfl]at h1;split at h1;cases h1;rw[ju _ _ _ _ (by rw[FX,hxl,<-nj];exact cL)]at h2;split at h2;rename_i hj;rw[if_pos (by omega),show off+(i*sz+j)-(off+(i*sz+k))=j-k by omega];exact h2;rename_i hj;rw[if_neg (by omega)];exact fA i xs j z KP h2;cases h1;rw[if_neg KQ]at h1;have hj:j<sz:=by
  have h3:=(List.getElem?_eq_some_iff.1 h2).1;have h4:=jv.flat.2.2.1 Ks (dn h1);omega
 have:¬(off+(i*sz+k)<=off+(i'*sz+j)/\off+(i'*sz+j)<off+(i*sz+k)+(ρ y).cells.toList.length):=by
  rcases Nat.lt_or_gt_of_ne KQ with aX|aX;have h5:(i+1)*sz<=i'*sz:=Nat.mul_le_mul_right _ aX;rw[Nat.succ_mul]at h5;omega;have h5:(i'+1)*sz<=i*sz:=Nat.mul_le_mul_right _ aX;rw[Nat.succ_mul]at h5;omega
 rw[if_neg this];exact fA i' Ks j z h1 h2;have h1:=tr b' rows loc.vals i row xs (ag row k v.cells) (ag xs k (ρ y).cells.toList) cZ KP;have h2:=ri b' row v.cells xs (ρ y).cells.toList k mF.1 CC.1 cL;have h3:=jO b';rw[Mt]at h2;have hb:(if ({ loc with vals:=loc.vals.set i (ag xs k (ρ y).cells.toList) }:mC).jF=some b' then 1 else 0)=(if loc.jF=some b' then 1 else 0):=rfl;simp only[cM,je];rw[hb];omega;cases hw;cases hw;cases hw;cases hw;cases hw;cases ha;cases ha
theorem bC.di{a:AV}{v:Value}(h:bC w G a v):bC w G a.di v:=by
 cases h with
 |iO sz rows a cap nF g8 cL jy qL wW hc hr jz gT=>exact .gone _ rfl|raw sz rows a cap nF g8 cL jy qL wW hc hr jz gT=>exact .gone _ rfl|agg cs vs hl h=>exact .agg cs vs hl h|fm cs vs hl h=>exact .fm cs vs hl h|undef=>exact .undef|gone v h=>exact .gone v h|bool b=>exact .bool b|int k n=>exact .int k n|str l s h=>exact .str l s h|fF=>exact .fF|U=>exact .U|gn=>exact .gn|jc=>exact .jc|kg=>exact .kg|dM sz rows a cap nF g8 cL jy qL wW hc hr=>exact .dM sz rows a cap nF g8 cL jy qL wW hc hr|mL a=>exact .mL a|mu id cz v loc hp hl hv he=>exact .mu id cz v loc hp hl hv he|ptr id cz i k v loc hp hl hv he=>exact .ptr id cz i k v loc hp hl hv he|qg sz rows i k a cap hl=>exact .qg sz rows i k a cap hl|map id loc b hl hm hb=>exact .map id loc b hl hm hb|fn f first lK vf vc hl hm hn h k=>exact .fn f first lK vf vc hl hm hn h k
theorem Qh(b:Nat)(a:AV)(v:Value)(h:a.cy=true):gu b a.di v=0:=by
 refine fz b _ _ ?_;cases a<;>simp_all [AV.di,AV.cD,AV.cy]
theorem IT(a:AV)(h:a.cy=true):a.di.cy=true:=by
 cases a<;>simp_all [AV.di,AV.cy]
theorem cG.di{as:List AV}{xs:List Value}(h:cG w G as xs):cG w G (as.map AV.di) xs:=by
 refine⟨by simp[h.1],λi c v h1 h2=>?_⟩;simp only[List.getElem?_map,Option.map_eq_some_iff]at h1;obtain⟨c',h1,rfl⟩:=h1;exact(h.2 i c' v h1 h2).di
theorem FY(b:Nat):∀(as:List AV)(xs:List Value),AV.bq as=true->cv b (as.map AV.di) xs=0
 |[],xs,_=>by simp[cv]|a::as,[],_=>by simp[cv]|a::as,x::xs,h=>by
  simp only[AV.bq,List.all_cons,Bool.and_eq_true]at h;have:=FY b as xs h.2;simp only[List.map_cons,cv,Qh b a x h.1,this]
theorem Fm{as:List AV}(h:AV.bq as=true):AV.bq (as.map AV.di)=true:=by
 simp only[AV.bq,List.all_eq_true,List.mem_map]at *;rintro x ⟨y,hy,rfl⟩;exact IT y (h y hy)
theorem Hf{as:List AV}(h:AV.bq as=true)(k n:Nat):AV.bq ((as.drop k).take n)=true:=by
 simp only[AV.bq,List.all_eq_true]at *;intro x hx;exact h x (List.mem_of_mem_drop (List.mem_of_mem_take hx))
theorem uh{α:Type}(xs:List α)(k n:Nat)(h:k+n<=xs.length):ag xs k ((xs.drop k).take n)=xs:=by
 rw[jU _ _ _ (by simp;omega)];have:((xs.drop k).take n).length=n:=by simp;omega
 rw[this,List.append_assoc,<-List.drop_drop,List.take_append_drop,List.take_append_drop]
theorem IU{r cs:List AV}{xs:List Value}{k n:Nat}(hr:cG w G r xs)(hc:cut r k n=some cs)(kC:AV.bq r=true) :
  cG w G (ag r k (cs.map AV.di)) xs/\AV.bq (ag r k (cs.map AV.di))=true/\∀b,cv b (ag r k (cs.map AV.di)) xs+cv b cs ((xs.drop k).take n)=cv b r xs:=by
 obtain⟨rfl,hle,hlen⟩:=rj hc;have KG:=Hf kC k n;have Qi:k+n<=xs.length:=by rw[<-hr.1];exact hle
 have W9:=uh xs k n Qi;refine⟨?_,jV kC (Fm KG) (by rw[List.length_map];omega),λb=>?_⟩;have:=hr.ag ((hr.drop k).take n).di (n:=k) (by rw[List.length_map];omega);rw[W9]at this;exact this;have h1:=lP b k r xs hr.1;have h2:=lP b n (r.drop k) (xs.drop k) (by simp[hr.1]);have h3:=FY b ((r.drop k).take n) ((xs.drop k).take n) KG;have e:cv b (ag r k (((r.drop k).take n).map AV.di)) xs=cv b (ag r k (((r.drop k).take n).map AV.di)) (ag xs k ((xs.drop k).take n)):=by rw[W9]
 rw[e,jU _ _ _ (by rw[List.length_map];omega),jU _ _ _ (by simp;omega),gK b _ _ _ _ (by have:=hr.1;simp;omega),gK b _ _ _ _ (by have:=hr.1;simp;omega),h3];have l1:(((r.drop k).take n).map AV.di).length=n:=by rw[List.length_map];omega
 have l2:((xs.drop k).take n).length=n:=by simp;omega
 rw[l1,l2];rw[List.drop_drop,List.drop_drop]at h2;omega
theorem gb{α:Type}(l:List α)(i:Nat)(x:α)(h:l[i]?=some x):l.set i x=l:=by
 apply List.ext_getElem?;intro j;rw[List.getElem?_set];split;rename_i e;subst e;split;exact h.symm;rename_i hn;exact absurd (List.getElem?_eq_some_iff.1 h).1 hn
 rfl
theorem KR{t:TypeId}{x:Operand}{n:Nat}{agg:Bool}(ho:o.op=.load t x)(hn:dD P t n=true)(sN:nN P t=some agg)(mh:agg=false->n=1){st:aj}{bx:bF}(hI:jQ w G st)(hB:lH w G β bx){cO:Nat->Nat}(hX:∀b,cO b+gW b β bx+cA b G.ls st<=1)
  {p:AV}(hp:bC w G p (ρ x)){wl af:Nat}{bV:aj}{gD:bF}{r:fq}(ha:aW wl af (.load agg n true) [.val p] st bx=some (r,bV,gD)) :
  ∃v,(execOp ρ o).run P w=.ok (.value v) w/\kB w G β st bx cO w G β bV gD r v:=by
 simp only[aW,if_true]at ha;split at ha;rename_i cs Dk;split at ha;rename_i kM v hw hv;cases ha;unfold cu at hw;split at hw;rename_i id cz i k;split at hw;rename_i ve sz rows iu;split at hw;rename_i GZ;simp only[Bool.and_eq_true,decide_eq_true_eq]at GZ;obtain⟨rfl,_⟩:=GZ;split at hw;rename_i row cZ;split at hw;rename_i cL;cases hw;simp only[dA,iu,cZ,if_true]at Dk;obtain⟨loc,b,off,c,e,xs,hl,E6,Ce,jv,He,AN,g8,gT,iC,hle,hlen,jz,KP,mF,fA⟩:=zw hI hp iu cZ;obtain⟨t1,t2,t3⟩:=IU mF Dk (jv.E5 row (dn cZ));obtain⟨jO,Ys,IV⟩:=rj Dk;have hxl:xs.length=row.length:=mF.1.symm;have ME:((xs.drop k).take n).length=n:=by simp;omega
 have fR:cG w G cs ((xs.drop k).take n):=by rw[jO];exact(mF.drop k).take n
 obtain⟨u,h1,h2,h3⟩:=G4 ho hn sN mh He ME fR (λj z hz=>by
  rw[List.getElem?_take]at hz;split at hz;rw[List.getElem?_drop]at hz;rw[show off+(i*sz+k)+j=off+(i*sz+(k+j)) by omega];exact fA i xs (k+j) z KP hz;cases hz) hv
 refine⟨u,h1,w9 hI hB hX hl iu (sJ.refl w G) (gb _ _ _ hl).symm ⟨E6,Ce,?_⟩ hI.nO (λb _ _=>⟨rfl,rfl⟩) (Nat.le_refl _) rfl rfl h2 λb'=>?_⟩;refine⟨dg.2 λr' xU=>?_,λr' xU=>?_,by simp[jv.len],jv.size,by simp[jv.tq],λi' r' Ks h1 h2=>?_,.inr ⟨b,off,c,e,AN,g8,iC,hle,by simpa using hlen,jz,fA⟩⟩;rcases List.mem_or_eq_of_mem_set xU with h|h;exact dg.1 jv.FJ r' h;rw[h,eW];exact dg.1 jv.FJ row (dn cZ);rcases List.mem_or_eq_of_mem_set xU with h|h;exact jv.E5 r' h;rw[h];exact t2;rw[List.getElem?_set]at h1;by_cases KQ:i=i';subst KQ;rw[if_pos rfl]at h1;split at h1;cases h1;rw[KP]at h2;cases h2;exact t1;cases h1;rw[if_neg KQ]at h1;exact jv.uc i' r' Ks h1 h2;have h4:=tr b' rows loc.vals i row xs (ag row k (cs.map AV.di)) xs cZ KP;rw[gb _ _ _ KP]at h4;have h5:=t3 b';have h6:=h3 b';simp only[cM,je];omega;cases hw;cases hw;cases hw;cases hw;cases hw;cases ha;cases ha
end Ax
namespace Ax
open Go
variable {P:Program}{w w':World}{G G':bp}{β gZ:List nh}{ρ:Operand->Value}{o:Oper}
def gp(nb:Option Nat)(β gZ:List nh):Prop:=∀(j:Nat) g,β[j]?=some g->∃g',gZ[j]?=some g'/\(nb≠some j->g'.jF=g.jF)
theorem gp.refl(nb:Option Nat)(β:List nh):gp nb β β:=λ_ g h=>⟨g,h,λ_=>rfl⟩
theorem gp.set{nb:Option Nat}{j:Nat}{g g':nh}(hg:β[j]?=some g)(h:nb≠some j->g'.jF=g.jF):gp nb β (β.set j g'):=by
 intro i x hx;by_cases hi:j=i;subst hi;rw[hg]at hx;cases hx;exact⟨g',by rw[List.getElem?_set,if_pos rfl,if_pos (List.getElem?_eq_some_iff.1 hg).1],h⟩;exact⟨x,by rw[List.getElem?_set,if_neg hi];exact hx,λ_=>rfl⟩
theorem Dl{st:aj}{bx:bF}{cO:Nat->Nat}(hI:jQ w G st)(hB:lH w G β bx)(hX:∀b,cO b+gW b β bx+cA b G.ls st<=1){j:Nat}{g g':nh}{row row':List AV}{e:fq}{v:Value}
  (hg:β[j]?=some g)(hr:bx[j]?=some row)(gT:g'.jF=g.jF)(hs:sJ w G w' G')(Fj:G'.ls=G.ls)(vk:zq w' G' row' g')(ht:∀b p,G'.mN b=some p->b<w'.heap.size)
  (IQ:∀b,b<w.heap.size->g.jF≠some b->eS w G w' G' b) (Qc:w.heap.size<=w'.heap.size) (My:w'.os=w.os) (zu:w'.output=w.output) (fR:kQ w' G' (β.set j g') e v)
  (hc:∀b,cM b e v+cv b row' g'.vals<=cO b+cv b row g.vals):kB w G β st bx cO w' G' (β.set j g') st (bx.set j row') e v:=by
 have key:∀b,g.jF=some b->1<=(if g.jF=some b then 1 else 0)+cv b row g.vals:=λb h=>by rw[if_pos h];omega
 refine⟨hs,vP hI hs Fj (λb hb=>IQ b (hI.held hb) λh=>?_) ht,⟨by simp[hB.len],λi r x h1 h2=>?_⟩,fR,λb=>?_,λb hb aX=>IQ b aX λh=>?_,Qc,My,zu⟩;have h1:=key b h;have h2:=nQ b β bx j g row hg hr;have:=hX b;omega;rw[List.getElem?_set]at h1 h2;by_cases Cf:j=i;subst Cf;rw[if_pos rfl,if_pos (List.getElem?_eq_some_iff.1 hr).1]at h1;rw[if_pos rfl,if_pos (List.getElem?_eq_some_iff.1 hg).1]at h2;cases h1;cases h2;exact vk;rw[if_neg Cf]at h1 h2;refine(hB.box i r x h1 h2).jK hs λb hb=>IQ b (hB.held (b:=b) (by have:=nQ b β bx i x r h2 h1;omega)) λh=>?_;have h3:=key b h;have h4:=IL b β bx i j x r g row (λe=>Cf e.symm) h2 h1 hg hr;have:=hX b;omega;have h1:=zp b β bx j g row g' row' hg hr;have h2:=hc b;rw[Fj];rw[gT]at h1;omega;have h1:=key b h;have h2:=nQ b β bx j g row hg hr;omega
theorem Hh{bx:bF}(hB:lH w G β bx){j k:Nat}{v:Value}{row:List AV}(hp:kQ w G β (.fp j k) v)(hr:bx[j]?=some row) :
  ∃g b c e,β[j]?=some g/\g.jF=some b/\v=.pointer (some ⟨b,k,none⟩)/\zq w G row g/\w.heap[b]?=some (.cells c e (0,0))/\row.length<=c.size/\G.mN b=some 0/\∀(k:Nat) x,g.vals[k]?=some x->w.cell? ⟨b,k,none⟩=some x:=by
 obtain⟨g,b,h1,h2,h3⟩:=hp;have hb:=hB.box j row g hr h1;rcases hb.sM with⟨h0,_⟩|⟨b',c,e,h4,h5,h6,h7,h8⟩;rw[h0]at h2;cases h2;rw[h2]at h4;cases h4;exact⟨g,b,c,e,h1,h2,h3,hb,h5,h6,h7,h8⟩
theorem Qj{t:TypeId}{x y:Operand}{j0 n:Nat}(ho:o.op=.store t x y)(hn:dD P t n=true){st:aj}{bx:bF}(hI:jQ w G st)(hB:lH w G β bx){cO:Nat->Nat}(hX:∀b,cO b+gW b β bx+cA b G.ls st<=1)
  {p v:fq}(hp:kQ w G β p (ρ x))(hv:kQ w G β v (ρ y))(jO:∀b,cM b v (ρ y)<=cO b){wl af:Nat}{bV:aj}{gD:bF}{r:fq}(ha:aW wl af (.jH j0 n) [p,v] st bx=some (r,bV,gD)) :
  ∃w' G' gZ,(execOp ρ o).run P w=.ok .skip w'/\kB w G β st bx cO w' G' gZ bV gD r undef/\gp none β gZ:=by
 unfold aW at ha;simp only at ha;split at ha;rename_i j k v heq;cases heq;split at ha;rename_i lp;simp only[Bool.and_eq_true,decide_eq_true_eq]at lp;obtain⟨⟨rfl,Uq⟩,Fk⟩:=lp;split at ha;rename_i row hr;split at ha;rename_i cL;cases ha;obtain⟨g,b,c,e,hg,gT,He,vm,iC,hle,jz,fA⟩:=Hh hB hp hr;obtain⟨CC,Mt⟩:=bC.cells hv;have FX:(ρ y).cells.toList.length=n:=by rw[<-Uq];exact CC.1.symm
 have IS:k+(ρ y).cells.toList.length<=c.size:=by omega
 have Fl:=lQ (P:=P) b k e (ρ y).cells.toList c w iC IS (CC.Yk Fk);have hW:Wr w G (w.setRow b (ag c.toList k (ρ y).cells.toList).toArray) ⟨G.ls,λb'=>if b'=b then some 0 else G.mN b'⟩ b:=G9 iC IS jz (Nat.zero_le _) (Nat.le_refl _) (Di G);have mh:cO b=0/\cv b row g.vals=0:=by
  have h1:=hX b;have h2:=nQ b β bx j0 g row hg hr;rw[if_pos gT]at h2;omega
 refine⟨_,⟨G.ls,λb'=>if b'=b then some 0 else G.mN b'⟩,β.set j0 ⟨g.jF,ag g.vals k (ρ y).cells.toList⟩,?_,Dl hI hB hX hg hr rfl hW.jK rfl ⟨?_,jV vm.E5 Fk (by rw[Uq];exact cL),.inr ⟨b,_,e,gT,setRow_heap w b c _ e (0,0) iC,?_,by simp,λi z hz=>?_⟩⟩ (hW.nO hI) (λb' _ oG=>hW.kZ λe=>oG (by rw[gT,e])) (by simp) rfl rfl trivial λb'=>?_,gp.set hg λ_=>rfl⟩;have dH:(ρ y).cells.size=n:=by simpa using FX
 simp only[execOp,ho,He,Sem.run_bind,Instr.storeAt,Instr.sureAddr,Sem.run_pure,Result.andThen_ok,storeVar,fo hn,dH,ne_eq,not_true_eq_false,if_false,Fl];refine(vm.tW.mono hW.jK λb' oG=>hW.kZ λe=>?_).ag (CC.mono hW.jK λb' oG=>hW.kZ λe=>?_) (by rw[Uq];exact cL);subst e;omega;subst e;rw[Mt]at oG;have:=jO b';simp only[cM]at this;omega;rw[eW,List.size_toArray,eW];simpa using hle;rw[vQ iC IS];simp only at hz;rw[ju _ _ _ _ (by rw[FX];rw[<-vm.tW.1];exact cL)]at hz;split at hz;rename_i hi;rw[if_pos hi];exact hz;rename_i hi;rw[if_neg hi];exact fA i z hz;have h2:=ri b' row v.cells g.vals (ρ y).cells.toList k vm.tW.1 CC.1 (by rw[Uq];exact cL);have h3:=jO b';rw[Mt]at h2;simp only[cM]at h3 ⊢;omega;cases ha;cases ha;cases ha;cases ha
theorem Ur{t:TypeId}{x:Operand}{j0 n:Nat}{agg take:Bool}(ho:o.op=.load t x)(hn:dD P t n=true)(sN:nN P t=some agg)(mh:agg=false->n=1){st:aj}{bx:bF}(hI:jQ w G st)(hB:lH w G β bx){cO:Nat->Nat}(hX:∀b,cO b+gW b β bx+cA b G.ls st<=1)
  {p:fq}(hp:kQ w G β p (ρ x)){wl af:Nat}{bV:aj}{gD:bF}{r:fq}(ha:aW wl af (.fD j0 agg n take) [p] st bx=some (r,bV,gD)) :
  ∃v,(execOp ρ o).run P w=.ok (.value v) w/\kB w G β st bx cO w G β bV gD r v:=by
 unfold aW at ha;simp only at ha;split at ha;rename_i j k heq;cases heq;split at ha;rename_i hj;subst hj;split at ha;rename_i row hr;split at ha;rename_i cs Qk;obtain⟨g,b,c,e,hg,gT,He,vm,iC,hle,jz,fA⟩:=Hh hB hp hr;obtain⟨jO,Ys,IV⟩:=rj Qk;have hxl:g.vals.length=row.length:=vm.tW.1.symm;have ME:((g.vals.drop k).take n).length=n:=by simp;omega
 have fR:cG w G cs ((g.vals.drop k).take n):=by rw[jO];exact(vm.tW.drop k).take n
 have qh:∀(j:Nat) y,((g.vals.drop k).take n)[j]?=some y->w.cell? ⟨b,k+j,none⟩=some y:=λj z hz=>by
  rw[List.getElem?_take]at hz;split at hz;rw[List.getElem?_drop]at hz;exact fA _ z hz;cases hz
 split at ha;split at ha;rename_i v hv;cases ha;obtain⟨u,h1,h2,h3⟩:=G4 ho hn sN mh He ME fR qh hv;obtain⟨t1,t2,t3⟩:=IU vm.tW Qk vm.E5;have:=Dl (e:=.val v) (v:=u) (g':=g) (row':=ag row k (cs.map AV.di)) hI hB hX hg hr rfl (sJ.refl w G) rfl ⟨t1,t2,.inr ⟨b,c,e,gT,iC,by rw[eW];exact hle,jz,fA⟩⟩ hI.nO (λb _ _=>⟨rfl,rfl⟩) (Nat.le_refl _) rfl rfl h2 λb'=>by
  have h4:=t3 b';have h5:=h3 b';simp only[cM];omega
 rw[gb _ _ _ hg]at this;exact⟨u,h1,this⟩;cases ha;split at ha;rename_i v hv;cases ha;obtain⟨u,h1,h2,h3⟩:=G4 ho hn sN mh He ME fR.view qh hv;refine⟨u,h1,kB.nR hI hB h2 λd=>?_⟩;simp only[cM,h3 d];rw[eF d _ _ (gG cs)];omega;cases ha;cases ha;cases ha;cases ha;cases ha
end Ax
namespace Ax
open Go
variable {P:Program}{w w':World}{G G':bp}{β gZ:List nh}{ρ:Operand->Value}{o:Oper}
theorem Dm{r:Nat}{es:Array MapEntry}{clock:Nat}{ob:Obj}(h:w.heap[r]?=some (.map es clock)):(setObj r ob).run P w=.ok () { w with heap:=w.heap.setIfInBounds r ob }:=by
 simp[setObj,Sem.run,h]
theorem Dn{t:TypeId}{kk:SK}(ht:pJ P t kk=true){k v:AV}{x y:Value}(hk:bC w G k x)(hv:bC w G v y)(hkn:k.cD=true)(Uq:v.cD=true):∀(es vE:List (AV×AV))(fs:List MapEntry),yH w G es fs->Fg kk k v es=some vE->
  (∃i e u,sj kk k es=some (some u)/\fs[i]?=some e/\(∀(q:Option (Nat×Value)),(Instr.findKey t x fs).run P w=.ok q w->∃val,q=some (i,val))/\AI kk k (es[i]?.map (·.1) |>.getD .undef)=some true/\(∃a,es[i]?=some a/\bC w G a.1 e.key)/\yH w G vE (fs.set i { e with key:=x,val:=y }))\/
  (sj kk k es=some none/\∀born,yH w G vE (fs++[{ key:=x,val:=y,born:=born }])):=by
 have hu:∃d,P.underlying t=some d:=by
  unfold pJ at ht;cases kk<;>simp only at ht<;>split at ht<;>(try cases ht)<;>exact⟨_,by assumption⟩
 obtain⟨d,hu⟩:=hu;intro es;induction es with
 |nil=>
  intro vE fs hM h;simp only[Fg,Option.some.injEq]at h;subst h;have h0:fs=[]:=List.eq_nil_of_length_eq_zero (by simpa using hM.1);subst h0;refine .inr ⟨rfl,λborn=>⟨rfl,λi a b e h1 h2=>?_⟩⟩;cases i with
  |zero=>simp at h1 h2;obtain⟨rfl,rfl⟩:=h1;subst h2;exact⟨hk,hv,Uq,hkn⟩|succ i=>simp at h1
 |cons c es ih=>
  intro vE fs hM h;obtain⟨a,u⟩:=c;cases fs with
  |nil=>have:=hM.1;simp at this|cons f fs=>
   obtain⟨g1,g2,g3,g4⟩:=hM.2 0 a u f rfl rfl;simp only[Fg]at h;split at h;rename_i he;cases h;refine .inl ⟨0,f,u,by simp[sj,he],rfl,λq hq=>?_,by simpa using he,⟨(a,u),rfl,g1⟩,?_⟩;have hs:=ud ht hu he hk g1;have:(Instr.findKey t x (f::fs)).run P w=.ok (some (0,f.val)) w:=by simp[Instr.findKey,run_underlying hu,Instr.findNow,hs]
   rw[this]at hq;cases hq;exact⟨_,rfl⟩;refine⟨by simpa using hM.1,λi p q e h1 h2=>?_⟩;cases i with
   |zero=>simp at h1 h2;obtain⟨rfl,rfl⟩:=h1;subst h2;exact⟨hk,hv,Uq,hkn⟩|succ i=>exact hM.2 (i+1) p q e (by simpa using h1) (by simpa using h2)
   rename_i he;split at h;rename_i r' xU;cases h;have hs:=ud ht hu he hk g1;have Xa:∀es2 fs2,yH w G es2 fs2->yH w G ((a,u)::es2) (f::fs2):=λes2 fs2 h2=>⟨by simp[h2.1],λi p q e e1 e2=>by
    cases i with
    |zero=>simp at e1 e2;obtain⟨rfl,rfl⟩:=e1;subst e2;exact⟨g1,g2,g3,g4⟩|succ i=>exact h2.2 i p q e (by simpa using e1) (by simpa using e2)⟩
   rcases ih r' fs hM.tail xU with⟨i,e,u',f1,f2,f3,f4,f5,f6⟩|⟨f1,f2⟩;refine .inl ⟨i+1,e,u',by simp[sj,he,f1],by simpa using f2,λq hq=>?_,by simpa using f4,by simpa using f5,by simpa using Xa _ _ f6⟩;obtain⟨q0,e1,e2⟩:=ue ht hu hk es fs 0 _ hM.tail f1;obtain⟨q1,e3,e4⟩:=ue ht hu hk es fs 1 _ hM.tail f1;obtain⟨j0,e0,a1,_⟩:=e2;obtain⟨j1,e0',b1,b2,_⟩:=e4;have h0:(Instr.findKey t x fs).run P w=.ok q0 w:=(by simp[Instr.findKey,run_underlying hu,e1]);obtain⟨val,cY⟩:=f3 q0 h0;have:(Instr.findKey t x (f::fs)).run P w=.ok q1 w:=by simp[Instr.findKey,run_underlying hu,Instr.findNow,hs,e3]
   rw[this]at hq;cases hq;have key:∀(fs:List MapEntry) (s:Nat) (q:Option (Nat×Value)),Instr.findNow d x fs s=some q->Instr.findNow d x fs (s+1)=some (q.map λz=>(z.1+1,z.2)):=by
    intro fs;induction fs with
    |nil=>intro s q h;simp[Instr.findNow]at h ⊢;subst h;rfl|cons f fs ih=>
     intro s q h;simp only[Instr.findNow]at h ⊢;cases hsn:Instr.sameNow d x f.key with
     |none=>rw[hsn]at h;simp at h|some b=>
      rw[hsn]at h;cases b with
      |true=>simp at h ⊢;subst h;rfl|false=>simp at h ⊢;exact ih _ _ h
   have h3:=key fs 0 q0 e1;rw[Nat.zero_add]at h3;rw[e3]at h3;cases h3;rw[cY];exact⟨val,rfl⟩;exact .inr ⟨by simp[sj,he,f1],λborn=>Xa _ _ (f2 born)⟩;cases h;cases h
theorem IW{kk:SK}{a b:AV}{x y:Value}(h:AI kk a b=some true)(ha:bC w G a x)(hb:bC w G b y)(n:Nat):Instr.sameBits n y x=true:=by
 unfold AI at h;split at h;simp only[Option.some.injEq,beq_iff_eq]at h;rw[ha.jT,hb.jT,h];simp[Instr.sameBits];split at h;rename_i eL;subst eL;simp only[Option.some.injEq,beq_iff_eq]at h;rw[ha.jP,hb.jP,h];simp[Instr.sameBits];cases h;simp only[Option.some.injEq,beq_iff_eq]at h;obtain⟨s,rfl,rfl⟩:=ha.mU;obtain⟨s',rfl,h2⟩:=hb.mU;have:s=s':=ByteArray.ext (Array.toList_inj.1 (h.trans h2.symm));subst this;simp only[Instr.sameBits];rw[beq_toListBytes];exact beq_self_eq_true _;cases h
theorem BB{t kt et:TypeId}{m k x:Operand}(ho:o.op=.mapUpdate t m k x\/o.op=.insert t m k x)(hu:P.underlying t=some (.map kt et)){kk:SK}(ht:pJ P kt kk=true){st:aj}{bx:bF}(hI:jQ w G st)(hB:lH w G β bx){cO:Nat->Nat}(hX:∀b,cO b+gW b β bx+cA b G.ls st<=1)
  {am ak av:AV}(hm:bC w G am (ρ m))(hk:bC w G ak (ρ k))(hv:bC w G av (ρ x)){wl af:Nat}{bV:aj}{gD:bF}{r:fq}(ha:aW wl af (.mapUpdate kk) [.val am,.val ak,.val av] st bx=some (r,bV,gD)) :
  ∃w' G',(execOp ρ o).run P w=.ok .skip w'/\kB w G β st bx cO w' G' β bV gD r undef:=by
 unfold aW at ha;simp only at ha;split at ha;rename_i id k0 v0 heq;cases heq;split at ha;rename_i es iu;split at ha;rename_i lp;simp only[Bool.and_eq_true]at lp;split at ha;rename_i vE Oa;cases ha;have hkn:ak.cD=true:=by
  have:=lp.1;unfold FD at this;split at this<;>first|rfl|cases this
 obtain⟨loc,hl,Ub⟩:=hI.loc iu;obtain⟨g1,g2,b,fs,clock,g3,g4,g5,g6,g7⟩:=Ub;have hmv:ρ m=.map (some b):=by
  generalize ρ m=mv at hm;cases hm with
  |map _ loc' bk sL E6 oG=>rw[hl]at sL;cases sL;rw[oG]at g3;cases g3;rfl
 have gT:loc.jF=some b:=by unfold mC.jF;rw[if_neg (by omega),g3];rfl
 have hM:yH w G es fs.toList:=⟨by simpa using g6,λi a v e e1 e2=>g7 i a v e e1 (by simpa using e2)⟩;have Uj:(getObj b).run P w=.ok (.map fs clock) w:=by simp[getObj,Sem.run,g4]
 have TS:=run_checkKey (w:=w) ht false 9999 (ρ k);have lG:∀(fs':Array MapEntry) (Hi:Nat),yH w G vE fs'.toList->
   kB w G β st bx cO { w with heap:=w.heap.setIfInBounds b (.map fs' Hi) } ⟨(G.at id loc).ls,λb'=>if b'=b then some 0 else G.mN b'⟩ β (st.set id (.map vE)) bx .none undef:=by
  intro fs' Hi hM';have aX:b<w.heap.size:=(Array.getElem?_eq_some_iff.1 g4).1;have hW:Wr w G { w with heap:=w.heap.setIfInBounds b (.map fs' Hi) } ⟨(G.at id loc).ls,λb'=>if b'=b then some 0 else G.mN b'⟩ b:=
   ⟨by simp,λb' oG=>by simp only[Array.getElem?_setIfInBounds];rw[if_neg λe=>oG e.symm],λb' oG=>by simp[oG],⟨0,0,g5,by simp,Nat.le_refl _,λo ho=>by omega⟩,G8 hl (Nat.le_refl _) λ_=>rfl⟩
  refine w9 hI hB hX hl iu hW.jK rfl ⟨g1,g2,b,fs',Hi,g3,?_,by simp,by simpa using hM'.1,λi a v e e1 e2=>?_⟩ (hW.nO hI) (λb' _ oG=>hW.kZ λe=>oG (by rw[gT,e])) (by simp) rfl rfl trivial λb'=>by simp only[cM,je];omega
  simp only[Array.getElem?_setIfInBounds];rw[if_pos trivial,if_pos aX];obtain⟨h1,h2,h3,h4⟩:=hM'.2 i a v e e1 (by simpa using e2);exact⟨h1.jK hW.jK λb hb=>by rw[fz b a _ h4]at hb;omega,h2.jK hW.jK λb hb=>by rw[fz b v _ h3]at hb;omega,h3,h4⟩
 have head:∀(w':World),(Instr.mapUpdate t (.map (some b)) (ρ k) (ρ x)).run P w=.ok () w'->(execOp ρ o).run P w=.ok .skip w':=by
  intro w' h;rcases ho with ho|ho<;>simp only[execOp,ho,hmv,Sem.run_bind,h,Result.andThen_ok,Sem.run_pure]
 rcases Dn ht hk hv.view hkn (ua av) es vE fs.toList hM Oa with⟨i,e,u,f1,f2,f3,f4,⟨a,f5,f6⟩,f7⟩|⟨f1,f2⟩;obtain⟨q,e1,e2⟩:=run_findKey ht hk hM f1 w;obtain⟨val,rfl⟩:=f3 q e1;have Is:fs[i]?=some e:=by simpa using f2
 refine⟨_,_,head _ ?_,lG (fs.modify i λe=>{ e with key:=ρ k,val:=ρ x }) clock ?_⟩;rw[f5]at f4;have hsb:=IW f4 hk f6 10000;simp only[Instr.mapUpdate,Sem.run_bind,run_underlying hu,Result.andThen_ok,Uj,TS,e1,Is,Option.map_some,Option.getD_some,Instr.keyThatStays,hsb,if_true,Sem.run_pure,Dm g4];have:(fs.modify i λe=>{ e with key:=ρ k,val:=ρ x }).toList=fs.toList.set i { e with key:=ρ k,val:=ρ x }:=by
  rw[Array.toList_modify];apply List.ext_getElem?;intro j;rw[List.getElem?_modify,List.getElem?_set];by_cases Cf:i=j;subst Cf;simp[(Array.getElem?_eq_some_iff.1 Is).1,(Array.getElem?_eq_some_iff.1 Is).2];simp[Cf]
 rw[this];exact f7;obtain⟨q,e1,e2⟩:=run_findKey ht hk hM f1 w;simp only at e2;subst e2;refine⟨_,_,head _ ?_,lG (fs.push { key:=ρ k,val:=ρ x,born:=clock }) (clock+1) (by rw[Array.toList_push];exact f2 clock)⟩;simp only[Instr.mapUpdate,Sem.run_bind,run_underlying hu,Result.andThen_ok,Uj,TS,e1,Dm g4];cases ha;cases ha;cases ha;cases ha
end Ax
namespace Ax
open Go
variable {P:Program}{w w':World}{G G':bp}{β gZ:List nh}{ρ:Operand->Value}{o:Oper}
structure It (w:World)(G:bp)(st:aj)(G':bp)(bV:aj):Prop where
 jK:sJ w G w G'
 inv:jQ w G' bV
 gu:∀b,cA b G'.ls bV<=cA b G.ls st
 vM:∀b,cA b G.ls st=0->G'.mN b=G.mN b
theorem It.refl{st:aj}(hI:jQ w G st):It w G st G st:=⟨sJ.refl w G,hI,λ_=>Nat.le_refl _,λ_ _=>rfl⟩
theorem It.trans{G1 G2:bp}{st kM kP:aj}(h:It w G st G1 kM)(k:It w G1 kM G2 kP):It w G st G2 kP:=
 ⟨h.jK.trans k.jK,k.inv,λb=>Nat.le_trans (k.gu b) (h.gu b),λb hb=>(k.vM b (by have:=h.gu b;omega)).trans (h.vM b hb)⟩
mutual
theorem vR:∀a:AV,a.ax=true->a.view.ax=true
 |.iO _ _,_=>by simp[AV.view,AV.ax]|.raw _ _,_=>by simp[AV.view,AV.ax]|.agg cs,h=>by simp only[AV.view,AV.ax]at *;exact pq cs h|.fm cs,h=>by simp only[AV.view,AV.ax]at *;exact pq cs h|.undef,h|.gone,h|.bool _,h|.int _ _,h|.str _,h|.fF,h|.U,h|.gn,h|.jc,h|.kg,h|.dM _ _,h|.mL,h|.mu _ _,h|.ptr _ _ _ _,h|.qg _ _ _ _,h|.map _,h|.fn _ _ _,h=>by simpa [AV.view] using h
theorem pq:∀cs:List AV,AV.ai cs=true->AV.ai (AV.cq cs)=true
 |[],_=>rfl|c::cs,h=>by
  simp only[AV.ai,Bool.and_eq_true]at h;simp only[AV.cq,AV.ai,vR c h.1,pq cs h.2,Bool.and_self]
end
theorem bC.AR{a:AV}{v:Value}(h:bC w G a v)(hs:sJ w G w' G')(hn:a.cD=true):bC w' G' a v:=h.jK hs λb hb=>by rw[fz b a v hn]at hb;omega
def lq(sz cz:Nat):mC:=⟨some ⟨0,0,none⟩,0,0,sz,cz+1,false,[]⟩
theorem Hj(sz cz:Nat):qZ w G (.rows (cz+1) sz []) (lq sz cz):=
 ⟨rfl,rfl,by simp[bL],by simp,rfl,rfl,rfl,λi r xs h=>by simp at h,.inl ⟨rfl,rfl,rfl⟩⟩
theorem FZ{st:aj}(hI:jQ w G st){id cz sz:Nat}{rows:List (List AV)}{loc:mC}(iu:st[id]?=some (.rows cz sz rows))(hl:G.ls[id]?=some loc)(E6:loc.mp=false)(Ce:loc.cz=cz) :
  It w G st (G.at id (lq sz cz)) (st.set id (.rows (cz+1) sz []))/\∀b,cA b (G.at id (lq sz cz)).ls (st.set id (.rows (cz+1) sz []))+je b loc (.rows cz sz rows)=cA b G.ls st:=by
 have hs:sJ w G w (G.at id (lq sz cz)):=P9 hl (by simp only[lq];omega) λh=>by
  rcases h with h|h;simp only[lq]at h;omega;rw[E6]at h;cases h
 have hc:∀b,cA b (G.at id (lq sz cz)).ls (st.set id (.rows (cz+1) sz []))+je b loc (.rows cz sz rows)=cA b G.ls st:=λb=>by
  have:=vL b G.ls st id loc _ (lq sz cz) (.rows (cz+1) sz []) hl iu;have h0:je b (lq sz cz) (.rows (cz+1) sz [])=0:=by simp[je,lq,mC.jF,iP]
  rw[h0]at this;exact this
 exact⟨⟨hs,CA hI hs rfl (λ_ _ _ b _ _ _ _=>⟨rfl,rfl⟩) (Hj sz cz) hI.nO,λb=>by have:=hc b;omega,λ_ _=>rfl⟩,hc⟩
def bp.Ch(G:bp)(b:Nat):bp:=⟨G.ls,λb'=>if b'=b then none else G.mN b'⟩
theorem IX{st:aj}(hI:jQ w G st){b:Nat}(hb:G.mN b=some 0)(h0:cA b G.ls st=0):sJ w G w (G.Ch b)/\jQ w (G.Ch b) st:=by
 have hs:sJ w G w (G.Ch b):=⟨λb' o hi=>⟨rfl,hi.1,λp hp=>by
  simp only[bp.Ch]at hp;split at hp;cases hp;exact hi.2 p hp⟩,Di G⟩
 refine⟨hs,vP hI hs rfl (λb' oG=>⟨?_,rfl⟩) λb' p hp=>?_⟩;simp only[bp.Ch];rw[if_neg];intro e;subst e;omega;simp only[bp.Ch]at hp;split at hp;cases hp;exact hI.nO b' p hp
theorem IY{sz b off cap:Nat}{rows:List (List AV)}{vals:List (List Value)}(cL:bL sz rows=true)(kC:∀r∈rows,AV.bq r=true)(jy:∀r∈rows,AV.eZ r=true)(qL:∀r∈rows,AV.ai r=true)
  (hlen:vals.length=rows.length)(acR:∀(i:Nat) r xs,rows[i]?=some r->vals[i]?=some xs->cG w G r xs)(g8:rows.length<=cap)(hb:b<w.heap.size)(ht:G.mN b=none)
  (fA:∀(i:Nat) xs (j:Nat) x,vals[i]?=some xs->xs[j]?=some x->w.cell? ⟨b,off+(i*sz+j),none⟩=some x):bC w G (.dM sz rows) (.slice (some ⟨b,off,none⟩) rows.length cap):=by
 have key:∀(i:Nat) r (j:Nat) c,rows[i]?=some r->r[j]?=some c->∃v,w.cell? ⟨b,off+(i*sz+j),none⟩=some v/\bC w G c v:=by
  intro i r j c h1 h2;have hi:i<vals.length:=by rw[hlen];exact(List.getElem?_eq_some_iff.1 h1).1
  have hv:=List.getElem?_eq_getElem hi;obtain⟨e1,e2⟩:=acR i r _ h1 hv;have hj:j<vals[i].length:=by rw[<-e1];exact(List.getElem?_eq_some_iff.1 h2).1
  exact⟨_,fA i _ j _ hv (List.getElem?_eq_getElem hj),e2 j c _ h2 (List.getElem?_eq_getElem hj)⟩
 refine .dM sz rows ⟨b,off,none⟩ cap rfl g8 cL jy qL kC (λi r j c h1 h2=>⟨⟨hb,λp hp=>by simp only at hp;rw[ht]at hp;cases hp⟩,?_⟩) λi r j c v h1 h2 h3=>?_;obtain⟨v,h,_⟩:=key i r j c h1 h2;exact⟨v,h⟩;obtain⟨v',h,h'⟩:=key i r j c h1 h2;rw[h]at h3;cases h3;exact h'
theorem KS{wl:Nat}{st bV:aj}{a a':AV}{v:Value}(hI:jQ w G st)(hX:∀b,cA b G.ls st<=1)(h:bC w G a v)(hf:me wl a st=some (a',bV)) :
  ∃G',It w G st G' bV/\bC w G' a' v/\a'.cD=true/\a'.ax=true/\a'.cy=true:=by
 unfold me at hf;split at hf
 ·rename_i id cz;split at hf
  ·rename_i v0 sz rows iu;split at hf
   ·rename_i hc;simp only[Bool.and_eq_true,decide_eq_true_eq,Bool.not_eq_true',List.all_eq_true]at hc;obtain⟨⟨⟨rfl,qL⟩,jn⟩,_⟩:=hc;cases hf;obtain⟨loc,hl,E6,Ce,jv⟩:=hI.loc iu;cases h with
    |mu _ _ _ loc' hp sL FH he=>
    rw[hl]at sL;cases sL;have cY:=he (by omega);subst cY;rcases jv.sM with⟨_,sP,_⟩|⟨b,off,c,e',AN,g8,iC,dH,hlen,jz,fA⟩;subst sP;simp at jn;obtain⟨f1,f2⟩:=FZ hI iu hl E6 Ce;have gT:loc.jF=some b:=(by unfold mC.jF;rw[if_neg (by omega),AN];rfl);have h0:cA b (G.at id (lq sz v0)).ls (st.set id (.rows (v0+1) sz []))=0:=by
     have h1:=f2 b;have h2:=hX b;simp only[je,gT,if_true]at h1;omega
    obtain⟨g1,g2⟩:=IX f1.inv (b:=b) (by exact jz) h0;refine⟨(G.at id (lq sz v0)).Ch b,⟨f1.jK.trans g1,g2,f1.gu,λb' oG=>?_⟩,?_,by simp[AV.cD],by simp[AV.ax],by simp[AV.cy]⟩;simp only[bp.Ch,bp.at];rw[if_neg];intro e;subst e;have h1:=f2 b';simp only[je,gT,if_true]at h1;omega;rw[AN,jv.len,show rows.length=(rows.map AV.cq).length by simp];refine IY (vals:=loc.vals) (dg.2 λr hr=>?_) (λr hr=>?_) (λr hr=>?_) (λr hr=>?_) (by simpa using jv.tq) (λi r xs h1 h2=>?_) (by simpa using hlen) (Array.getElem?_eq_some_iff.1 iC).1 (by simp[bp.Ch]) fA;obtain⟨r',xU,rfl⟩:=List.mem_map.1 hr;rw[nM];exact dg.1 jv.FJ r' xU;obtain⟨r',xU,rfl⟩:=List.mem_map.1 hr;rw[rq];exact jv.E5 r' xU;obtain⟨r',xU,rfl⟩:=List.mem_map.1 hr;exact gG r';obtain⟨r',xU,rfl⟩:=List.mem_map.1 hr;exact pq r' (qL r' xU);simp only[List.getElem?_map,Option.map_eq_some_iff]at h1;obtain⟨r',h1,rfl⟩:=h1;refine(jv.uc i r' xs h1 h2).view.mono (f1.jK.trans g1) λb' oG=>?_;rw[eF b' _ _ (gG r')]at oG;omega
   cases hf
  cases hf
 split at hf;rename_i hc;simp only[Bool.and_eq_true]at hc;cases hf;exact⟨G,It.refl hI,h.view,ua a,vR a hc.1,by rw[Bz];exact hc.2⟩;cases hf
theorem Dp{wl:Nat}:∀{l l':List AV}{xs:List Value}{G:bp}{st bV:aj},jQ w G st->(∀b,cv b l xs+cA b G.ls st<=1)->cG w G l xs->ku wl l st=some (l',bV)->
  ∃G',It w G st G' bV/\cG w G' l' xs/\AV.eZ l'=true/\AV.ai l'=true/\AV.bq l'=true
 |[],l',xs,G,st,bV,hI,hX,h,hf=>by
  simp only[ku,Option.some.injEq,Prod.mk.injEq]at hf;obtain⟨rfl,rfl⟩:=hf;exact⟨G,It.refl hI,h,rfl,rfl,rfl⟩
 |a::l,l',xs,G,st,bV,hI,hX,h,hf=>by
  simp only[ku]at hf;split at hf
  ·rename_i a1 kM h1;split at hf
   ·rename_i l2 kP h2;cases hf;cases xs with
    |nil=>have:=h.1;simp at this|cons x xs=>
    obtain⟨G1,f1,f2,f3,f4,f5⟩:=KS hI (λb=>by have:=hX b;omega) (h.2 0 a x rfl rfl) h1;have Ql:cG w G l xs:=⟨by simpa using h.1,λi c v e1 e2=>h.2 (i+1) c v (by simpa using e1) (by simpa using e2)⟩;have hX1:∀b,cv b l xs+cA b G1.ls kM<=1:=λb=>by
     have e1:=hX b;have e2:=f1.gu b;simp only[cv]at e1;omega
    obtain⟨G2,g1,g2,g3,g4,g5⟩:=Dp f1.inv hX1 (Ql.mono f1.jK λb hb=>⟨f1.vM b (by have:=hX b;simp only[cv]at this;omega),rfl⟩) h2;refine⟨G2,f1.trans g1,⟨by simp[g2.1],λi c v e1 e2=>?_⟩,by simp[AV.eZ,f3,g3],by simp[AV.ai,f4,g4],?_⟩;cases i with
    |zero=>simp at e1 e2;subst e1;subst e2;exact f2.AR g1.jK f3|succ i=>exact g2.2 i c v (by simpa using e1) (by simpa using e2)
    simp only[AV.bq,List.all_cons,Bool.and_eq_true]at g5 ⊢;exact⟨f5,g5⟩
   cases hf
  cases hf
theorem vU{wl:Nat}:∀{l l':List AV}{st bV:aj},ku wl l st=some (l',bV)->l'.length=l.length
 |[],l',st,bV,hf=>by simp only[ku,Option.some.injEq,Prod.mk.injEq]at hf;obtain⟨rfl,_⟩:=hf;rfl|a::l,l',st,bV,hf=>by
  simp only[ku]at hf;split at hf;split at hf;rename_i h2;cases hf;simp[vU h2];cases hf;cases hf
theorem BE{wl:Nat}:∀{l l':List (List AV)}{xs:List (List Value)}{G:bp}{st bV:aj},jQ w G st->(∀b,iP b l xs+cA b G.ls st<=1)->l.length=xs.length->(∀(i:Nat) r x,l[i]?=some r->xs[i]?=some x->cG w G r x)->kO wl l st=some (l',bV)->
  ∃G',It w G st G' bV/\l'.length=l.length/\(∀(i:Nat) r x,l'[i]?=some r->xs[i]?=some x->cG w G' r x)/\(∀(i:Nat) r r',l[i]?=some r->l'[i]?=some r'->r'.length=r.length)/\(∀r∈l',AV.eZ r=true)/\(∀r∈l',AV.ai r=true)/\(∀r∈l',AV.bq r=true)
 |[],l',xs,G,st,bV,hI,hX,hl,h,hf=>by
  simp only[kO,Option.some.injEq,Prod.mk.injEq]at hf;obtain⟨rfl,rfl⟩:=hf;exact⟨G,It.refl hI,rfl,h,λi r r' e=>by simp at e,by simp,by simp,by simp⟩
 |a::l,l',xs,G,st,bV,hI,hX,hl,h,hf=>by
  simp only[kO]at hf;split at hf
  ·rename_i a1 kM h1;split at hf
   ·rename_i l2 kP h2;cases hf;cases xs with
    |nil=>simp at hl|cons x xs=>
    obtain⟨G1,f1,f2,f3,f4,f5⟩:=Dp hI (λb=>by have:=hX b;simp only[iP]at this;omega) (h 0 a x rfl rfl) h1;have hX1:∀b,iP b l xs+cA b G1.ls kM<=1:=λb=>by
     have e1:=hX b;have e2:=f1.gu b;simp only[iP]at e1;omega
    obtain⟨G2,g1,g2,g3,g4,g5,g6,g7⟩:=BE f1.inv hX1 (by simpa using hl) (λi r y e1 e2=>(h (i+1) r y (by simpa using e1) (by simpa using e2)).mono f1.jK λb hb=>⟨f1.vM b (by
     have e3:=hX b;have e4:=w8 b l xs i r y e1 e2;simp only[iP]at e3;omega),rfl⟩) h2
    refine⟨G2,f1.trans g1,by simp[g2],λi r y e1 e2=>?_,λi r r' e1 e2=>?_,λr hr=>?_,λr hr=>?_,λr hr=>?_⟩;cases i with
    |zero=>simp at e1 e2;subst e1;subst e2;exact f2.mono g1.jK λb hb=>by rw[eF b _ _ f3]at hb;omega|succ i=>exact g3 i r y (by simpa using e1) (by simpa using e2)
    cases i with
    |zero=>simp at e1 e2;subst e1;subst e2;exact vU h1|succ i=>exact g4 i r r' (by simpa using e1) (by simpa using e2)
    rcases List.mem_cons.1 hr with rfl|hr;exact f3;exact g5 r hr;rcases List.mem_cons.1 hr with rfl|hr;exact f4;exact g6 r hr;rcases List.mem_cons.1 hr with rfl|hr;exact f5;exact g7 r hr
   cases hf
  cases hf
theorem yK{wl:Nat}{st bV:aj}{a a':AV}{v:Value}(hI:jQ w G st)(hX:∀b,cA b G.ls st<=1)(h:bC w G a v)(hf:jm wl a st=some (a',bV)) :
  ∃G',It w G st G' bV/\bC w G' a' v/\a'.cD=true:=by
 unfold jm at hf;split at hf
 ·rename_i id cz;split at hf
  ·rename_i v0 sz rows iu;split at hf
   ·rename_i hc;simp only[Bool.and_eq_true,decide_eq_true_eq,Bool.not_eq_true']at hc;obtain⟨⟨rfl,jn⟩,_⟩:=hc;split at hf
    ·rename_i eU kM KO;cases hf;obtain⟨loc,hl,E6,Ce,jv⟩:=hI.loc iu;cases h with
     |mu _ _ _ loc' hp sL FH he=>
     rw[hl]at sL;cases sL;have cY:=he (by omega);subst cY;rcases jv.sM with⟨_,sP,_⟩|⟨b,off,c,e',AN,g8,iC,dH,hlen,jz,fA⟩;subst sP;simp at jn;obtain⟨f1,f2⟩:=FZ hI iu hl E6 Ce;have gT:loc.jF=some b:=(by unfold mC.jF;rw[if_neg (by omega),AN];rfl);have hX1:∀b',iP b' rows loc.vals+cA b' (G.at id (lq sz v0)).ls (st.set id (.rows (v0+1) sz []))<=1:=λb'=>by
      have h1:=f2 b';have h2:=hX b';simp only[je]at h1;omega
     obtain⟨G2,g1,g2,g3,g4,g5,g6,g7⟩:=BE f1.inv hX1 jv.tq.symm (λi r y e1 e2=>(jv.uc i r y e1 e2).mono f1.jK λb _=>⟨rfl,rfl⟩) KO;have h0:cA b (G.at id (lq sz v0)).ls (st.set id (.rows (v0+1) sz []))=0:=by
      have h1:=f2 b;have h2:=hX b;simp only[je,gT,if_true]at h1;omega
     have Yt:G2.mN b=some 0:=(g1.vM b h0).trans jz;obtain⟨k1,k2⟩:=IX g1.inv Yt (by have:=g1.gu b;omega);refine⟨G2.Ch b,⟨(f1.jK.trans g1.jK).trans k1,k2,λb'=>Nat.le_trans (g1.gu b') (f1.gu b'),λb' oG=>?_⟩,?_,by simp[AV.cD]⟩;have hbb:b'≠b:=by
      intro e;subst e;have h1:=f2 b';simp only[je,gT,if_true]at h1;omega
     simp only[bp.Ch];rw[if_neg hbb];exact g1.vM b' (by have:=f1.gu b';omega);rw[AN,jv.len,<-g2];refine IY (vals:=loc.vals) (dg.2 λr hr=>?_) g7 g5 g6 (by rw[jv.tq,g2]) (λi r xs h1 h2=>(g3 i r xs h1 h2).mono k1 λb' oG=>by rw[eF b' _ _ (g5 r (dn h1))]at oG;omega) (by rw[g2];exact hlen) (Array.getElem?_eq_some_iff.1 iC).1 (by simp[bp.Ch]) fA;obtain⟨i,hi,rfl⟩:=List.mem_iff_getElem.1 hr;have rW:i<rows.length:=(by rw[<-g2];exact hi);rw[g4 i rows[i] eU[i] (List.getElem?_eq_getElem rW) (List.getElem?_eq_getElem hi)];exact dg.1 jv.FJ _ (List.getElem_mem rW)
    cases hf
   cases hf
  cases hf
 cases hf;cases h;exact⟨G,It.refl hI,.U,rfl⟩;cases hf
end Ax
namespace Ax
open Go
variable {P:Program}{w w':World}{G G':bp}{β gZ:List nh}{ρ:Operand->Value}{o:Oper}
end Ax
namespace Ax
open Go
variable {P:Program}{w w':World}{G G':bp}{β gZ:List nh}{ρ:Operand->Value}{o:Oper}
theorem Ob{α:Type}(r:List α)(k:Nat)(v:α)(h:k<r.length):ag r k [v]=r.set k v:=by
 rw[jU _ _ _ (by simp;omega)];rw[List.set_eq_take_append_cons_drop,if_pos h];simp
theorem IZ(b:Nat):∀(r:List AV)(xs:List Value)(k:Nat)(v v':AV)(x:Value),r[k]?=some v->xs[k]?=some x->cv b (r.set k v') xs+gu b v x=cv b r xs+gu b v' x
 |[],_,_,_,_,_,h,_=>by simp at h|_::_,[],_,_,_,_,_,h=>by simp at h|r::rs,x::xs,0,v,v',x',h,k=>by simp at h k;subst h;subst k;simp only[List.set_cons_zero,cv];omega|r::rs,x::xs,i+1,v,v',x',h,k=>by
  have:=IZ b rs xs i v v' x' (by simpa using h) (by simpa using k);simp only[List.set_cons_succ,cv];omega
theorem I0(G:bp)(ls:List mC):sJ w G w ⟨G.ls++ls,G.mN⟩ where
 PW:=λ_ _ h=>⟨rfl,h⟩
 Mp:=λid loc hl=>⟨loc,by
  rw[List.getElem?_append_left (List.getElem?_eq_some_iff.1 hl).1];exact hl,Nat.le_refl _,λ_=>rfl⟩
theorem Us{st:aj}{loc:mC}{ob:dz}(hI:jQ w G st)(h:qZ w ⟨G.ls++[loc],G.mN⟩ ob loc):jQ w ⟨G.ls++[loc],G.mN⟩ (st++[ob]) where
 len:=by simp[hI.len]
 nO:=hI.nO
 aU:=λid Ir l h1 h2=>by
  simp only at h2;by_cases Kp:id<st.length;rw[List.getElem?_append_left Kp]at h1;rw[List.getElem?_append_left (by rw[hI.len];exact Kp)]at h2;exact(hI.aU id Ir l h1 h2).jK (I0 G _) λb _=>⟨rfl,rfl⟩;rw[List.getElem?_append_right (by omega)]at h1;rw[List.getElem?_append_right (by rw[hI.len];omega),hI.len]at h2;by_cases he:id-st.length=0;rw[he]at h1 h2;simp at h1 h2;subst h1;subst h2;exact h;obtain⟨n,hn⟩:∃n,id-st.length=n+1:=⟨id-st.length-1,by omega⟩;rw[hn]at h1;simp at h1
def uk(w:World)(a:Addr)(sz:Nat)(rows:List (List AV)):List (List Value):=
 rows.mapIdx λi r=>r.mapIdx λj _=>(w.cell? ⟨a.block,a.off+(i*sz+j),none⟩).getD Go.undef
theorem Ut{st:aj}{id ve i k k2 sz lF:Nat}{rows eU:List (List AV)}{r:List AV}{u:Value}(hI:jQ w G st)(hp:bC w G (.ptr id ve i k) u)
  (iu:st[id]?=some (.rows ve sz rows))(cZ:rows[i]?=some r)(hv:r[k2]?=some (.raw lF eU)) :
  ∃G',It w G st G' ((st++[dz.rows 0 lF eU]).set id (.rows ve sz (rows.set i (ag r k2 [.mu st.length 0])))):=by
 obtain⟨loc,b,o,c,e,xs,hl,E6,Ce,jv,He,AN,g8,gT,iC,hle,hlen,jz,KP,mF,fA⟩:=zw hI hp iu cZ;have KD:k2<r.length:=(List.getElem?_eq_some_iff.1 hv).1;obtain⟨x,hx⟩:∃x,xs[k2]?=some x:=⟨_,List.getElem?_eq_getElem (by rw[<-mF.1];exact KD)⟩;have fR:=mF.2 _ _ _ hv hx;cases fR with
 |raw _ _ a cap nF Xb cL jy qL wW hc hr ht hb=>
 obtain⟨cc,ce,Ci,Hl⟩:=hb;have key:∀(i:Nat) r (j:Nat) c,eU[i]?=some r->r[j]?=some c->∃v,(uk w a lF eU)[i]?.bind (·[j]?)=some v/\w.cell? ⟨a.block,a.off+(i*lF+j),none⟩=some v:=by
  intro i r j c h1 h2;obtain⟨v,hv⟩:=hc i r j c h1 h2;exact⟨v,by simp[uk,h1,h2,hv],hv⟩
 have Ms:∀(i:Nat) xs (j:Nat) x,(uk w a lF eU)[i]?=some xs->xs[j]?=some x->w.cell? ⟨a.block,a.off+(i*lF+j),none⟩=some x:=by
  intro i xs j x h1 h2;simp only[uk,List.getElem?_mapIdx,Option.map_eq_some_iff]at h1;obtain⟨r,h3,rfl⟩:=h1;simp only[List.getElem?_mapIdx,Option.map_eq_some_iff]at h2;obtain⟨c,h4,rfl⟩:=h2;obtain⟨v,hv⟩:=hc i r j c h3 h4;rw[hv];rfl
 have acT:(some a:Option Addr)=some ⟨a.block,a.off,none⟩:=by rw[<-nF]
 let loc':mC:=⟨some a,cap,eU.length,lF,0,false,uk w a lF eU⟩
 let G':bp:=⟨G.ls++[loc'],G.mN⟩
 have Uu:sJ w G w G':=I0 G _;have hO:qZ w G' (.rows 0 lF eU) loc':=by
  refine⟨rfl,rfl,cL,wW,rfl,rfl,by simp[loc',uk],λi r xs h1 h2=>⟨?_,λj c v h3 h4=>?_⟩,?_⟩;simp only[loc',uk,List.getElem?_mapIdx,h1,Option.map_some,Option.some.injEq]at h2;subst h2;simp;have h5:=Ms i xs j v h2 h4;exact(hr i r j c v h1 h3 h5).AR Uu ((de r).1 (jy r (dn h1)) c (dn h3));rcases Nat.eq_zero_or_pos cap with h0|h0;refine .inl ⟨h0,?_,rfl⟩;cases eU with
  |nil=>rfl|cons _ _=>simp at Xb;omega
  exact .inr ⟨a.block,a.off,cc,ce,acT,h0,Ci,Hl,Xb,ht,Ms⟩
 have hI1:jQ w G' (st++[dz.rows 0 lF eU]):=Us hI hO;have Kp:id<st.length:=(List.getElem?_eq_some_iff.1 iu).1;have Fl:(st++[dz.rows 0 lF eU])[id]?=some (.rows ve sz rows):=by rw[List.getElem?_append_left Kp];exact iu
 have Uv:G'.ls[id]?=some loc:=by
  show (G.ls++[loc'])[id]?=_;rw[List.getElem?_append_left (by rw[hI.len];exact Kp)];exact hl
 have hmu:bC w G' (.mu st.length 0) (.slice (some a) eU.length cap):=by
  refine .mu _ _ _ loc' ⟨_,_,_,rfl⟩ ?_ (Nat.le_refl _) λ_=>rfl;show (G.ls++[loc'])[st.length]?=_;rw[List.getElem?_append_right (by rw[hI.len];exact Nat.le_refl _),hI.len];simp
 have vV:ag r k2 [AV.mu st.length 0]=r.set k2 (.mu st.length 0):=Ob r k2 _ KD;have Qm:cG w G' r xs:=⟨mF.1,λj c v h1 h2=>(mF.2 j c v h1 h2).jK Uu λ_ _=>⟨rfl,rfl⟩⟩;have vk:qZ w G' (.rows ve sz (rows.set i (ag r k2 [.mu st.length 0]))) loc:=by
  rw[vV];refine⟨E6,Ce,dg.2 λr' xU=>?_,λr' xU=>?_,by simp[jv.len],jv.size,by simp[jv.tq],λi' r' Ks h1 h2=>?_,.inr ⟨b,o,c,e,AN,g8,iC,hle,by simpa using hlen,jz,fA⟩⟩;rcases List.mem_or_eq_of_mem_set xU with h|h;exact dg.1 jv.FJ r' h;rw[h,List.length_set];exact dg.1 jv.FJ r (dn cZ);rcases List.mem_or_eq_of_mem_set xU with h|h;exact jv.E5 r' h;rw[h,<-vV];exact jV (jv.E5 r (dn cZ)) (by simp[AV.bq,AV.cy]) (by simp;omega);rw[List.getElem?_set]at h1;by_cases KQ:i=i';subst KQ;rw[if_pos rfl]at h1;split at h1;cases h1;rw[KP]at h2;cases h2;refine⟨by rw[List.length_set];exact mF.1,λj c v h3 h4=>?_⟩;rw[List.getElem?_set]at h3;by_cases Yu:k2=j;subst Yu;rw[if_pos rfl,if_pos KD]at h3;cases h3;rw[hx]at h4;cases h4;exact hmu;rw[if_neg Yu]at h3;exact Qm.2 j c v h3 h4;cases h1;rw[if_neg KQ]at h1;have h3:=jv.uc i' r' Ks h1 h2;exact⟨h3.1,λj c v h4 h5=>(h3.2 j c v h4 h5).jK Uu λ_ _=>⟨rfl,rfl⟩⟩
 refine⟨G',Uu,CA hI1 (sJ.refl w G') (gb _ _ _ Uv).symm (λ_ _ _ _ _ _ _ _=>⟨rfl,rfl⟩) vk hI1.nO,λb'=>?_,λ_ _=>rfl⟩;have h1:=vL b' G'.ls (st++[dz.rows 0 lF eU]) id loc _ loc (.rows ve sz (rows.set i (ag r k2 [.mu st.length 0]))) Uv Fl;rw[gb _ _ _ Uv]at h1;have h4:=tr b' rows loc.vals i r xs (ag r k2 [.mu st.length 0]) xs cZ KP;rw[gb _ _ _ KP]at h4;have h5:=IZ b' r xs k2 _ (.mu st.length 0) _ hv hx;rw[<-vV]at h5;have h6:cA b' G'.ls (st++[dz.rows 0 lF eU])=cA b' G.ls st+cA b' [loc'] [dz.rows 0 lF eU]:=sA b' _ _ _ _ hI.len;have h7:cA b' [loc'] [dz.rows 0 lF eU]<=gu b' (.raw lF eU) (.slice (some a) eU.length cap):=by
  simp only[cA,je,gu,Bx b' eU _ jy,loc',mC.jF,Nat.add_zero];by_cases yJ:cap=0;simp[yJ];simp[yJ]
 have h8:gu b' (.mu st.length 0) (.slice (some a) eU.length cap)=0:=by simp[gu]
 simp only[je]at h1;omega
end Ax
namespace Ax
open Go
variable {P:Program}{w w':World}{G G':bp}{β gZ:List nh}{ρ:Operand->Value}{o:Oper}
def j9(P:Program)(ρ:Operand->Value)(o:Oper)(w:World)(G:bp)(β:List nh)(st:aj)(bx:bF)(cO:Nat->Nat)(nb:Option Nat)(r:fq)(bV:aj)(gD:bF):Prop:=
 ∃n v w' G' gZ,(execOp ρ o).run P w=.ok n w'/\(n=.value v\/n=.skip/\v=undef)/\kB w G β st bx cO w' G' gZ bV gD r v/\gp nb β gZ
theorem j9.nR{st:aj}{bx:bF}{cO:Nat->Nat}{nb:Option Nat}{r:fq}(hI:jQ w G st)(hB:lH w G β bx){u:Value}(h:(execOp ρ o).run P w=.ok (.value u) w)(hr:kQ w G β r u)(hc:∀b,cM b r u<=cO b):j9 P ρ o w G β st bx cO nb r st bx:=
 ⟨_,u,w,G,β,h,.inl rfl,kB.nR hI hB hr hc,gp.refl _ _⟩
theorem j9.cD{st:aj}{bx:bF}{cO:Nat->Nat}{nb:Option Nat}{a:AV}(hI:jQ w G st)(hB:lH w G β bx){u:Value}(h:(execOp ρ o).run P w=.ok (.value u) w)(hr:bC w G a u)(hn:a.cD=true):j9 P ρ o w G β st bx cO nb (.val a) st bx:=
 j9.nR hI hB h hr λb=>by simp only[cM,fz b a u hn];omega
theorem lg.Oc{vals:List fq}{xs:List Value}{vs:List AV}(h:lg w G β vals xs)(hv:jt vals=some vs):cG w G vs xs/\∀b,mD b vals xs=cv b vs xs:=by
 obtain⟨e1,e2,e3⟩:=h.vals hv;exact⟨⟨e2,e3⟩,λb=>by rw[e1,C4]⟩
theorem zx{rows:List (List AV)}(h:rows.all AV.bq=true):∀r∈rows,AV.bq r=true:=by simpa using h
theorem I1{rows:List (List AV)}(h:rows.all AV.ai=true):∀r∈rows,AV.ai r=true:=by simpa using h
theorem zy{sz:Nat}{p:AV->Prop}:∀(qs:List Nat)(vs:List AV)(rows eU:List (List AV)),(∀r∈rows,∀c∈r,p c)->(∀v∈vs,∀c∈v.cells,p c)->gv sz rows qs vs=some eU->∀r∈eU,∀c∈r,p c
 |[],[],rows,eU,hr,_,h=>by simp[gv]at h;subst h;exact hr|[],_::_,_,_,_,_,h=>by simp[gv]at h|_::_,[],_,_,_,_,h=>by simp[gv]at h|i::qs,v::vs,rows,eU,hr,hv,h=>by
  simp only[gv]at h;split at h;refine zy qs vs _ eU (λr hm=>?_) (λu hu=>hv u (by simp[hu])) h;rcases List.mem_or_eq_of_mem_set hm with h1|h1;exact hr r h1;rw[h1];exact hv v (by simp);cases h
theorem I2{v:AV}(h:v.cD=true):∀c∈v.cells,c.cD=true:=by
 cases v<;>simp_all [AV.cells,AV.cD];exact(de _).1 h
theorem I3(vs:List AV):∀v∈AV.cq vs,v.cD=true:=(de _).1 (gG vs)
theorem Dq{x:Option Operand}{d a:Int}{vals rest:List fq}{xs:List Value}(h:sq x.isSome d vals=some (a,rest))(hR:lg w G β vals (x.toList.map ρ++xs)):yG ρ x d a/\lg w G β rest xs:=by
 unfold sq at h;cases x with
 |none=>simp at h;obtain⟨rfl,rfl⟩:=h;exact⟨.inl ⟨rfl,rfl⟩,by simpa using hR⟩|some y=>
  simp only[Option.isSome_some,if_true]at h;split at h;rename_i n r;cases h;simp only[Option.toList_some,List.map_cons,List.map_nil,List.cons_append,List.nil_append,lg,kQ]at hR;exact⟨.inr ⟨y,rfl,hR.1.jP⟩,hR.2⟩;cases h
theorem F0{c:Call}{t u:TypeId}(h2:c.argTypes.size=2)(h0:c.argTypes[0]?=some t)(h1:c.argTypes[1]?=some u):c.argTypes = #[t,u]:=by
 apply Array.ext_getElem?;intro i;match i with
 |0=>simpa using h0|1=>simpa using h1|i+2=>simp;omega
section
variable {S:Nat->Option aH}{so:aK}{vals:List fq}{wl af:Nat}{st bV:aj}{bx gD:bF}{cO:Nat->Nat}{r:fq}
theorem Uw{t:TypeId}{x:Operand}{lo hi mx:Option Operand}{wV:Bool}{sz:Nat}(ho:o.op=.slice t x lo hi mx)(Yv:mx.isSome=true->hi.isSome=true)
  (hu:match P.underlying t with|some (.slice e)=>(!wV&&dD P e sz)=true|some .string=>(wV && !mx.isSome)=true|_=>False)(hI:jQ w G st)(hB:lH w G β bx)
  (hR:lg w G β vals ((w7 x lo hi mx).map ρ)) (hcO:∀b,mD b vals ((w7 x lo hi mx).map ρ)<=cO b) (ha:aW wl af (.slice wV lo.isSome hi.isSome mx.isSome sz) vals st bx=some (r,bV,gD)) :
  j9 P ρ o w G β st bx cO none r bV gD:=by
 simp only[w7,List.map_cons,List.map_append]at hR;unfold aW at ha;simp only at ha;split at ha;rename_i a l;obtain⟨TV,Ux⟩:=hR;simp only[kQ]at TV;split at ha;cases ha;rename_i n hn;split at ha;cases ha;rename_i lov l1 vA;obtain⟨Ho,hR1⟩:=Dq vA (xs:=hi.toList.map ρ++mx.toList.map ρ) (by simpa [List.append_assoc] using Ux);split at ha;cases ha;rename_i hiv l2 hhi;obtain⟨Hp,hR2⟩:=Dq hhi hR1;split at ha;rename_i hmx;have ag5:mx=none:=by cases mx<;>simp_all
 subst ag5;split at ha;rename_i v hv;cases ha;unfold kq at hv;split at hv;rename_i s;split at hv;rename_i hc;simp only[Bool.and_eq_true,decide_eq_true_eq]at hc;obtain⟨⟨⟨_,h0⟩,h1⟩,h2⟩:=hc;cases hv;simp only[if_true,ov,Option.some.injEq]at hn;subst hn;have hus:P.underlying t=some .string:=by
  split at hu;simp at hu
  assumption
  exact hu.elim
 obtain⟨u,e1,e2⟩:=KJ ho hus TV Ho Hp h0 h1 h2;exact j9.cD hI hB e1 e2 rfl;cases hv;simp only[Bool.and_true]at hv;split at hv;rename_i hc;simp only[Bool.and_eq_true,decide_eq_true_eq]at hc;obtain⟨rfl,rfl⟩:=hc;cases hv;simp only[ov,fJ]at hn;cases hn;split at hu;rename_i e Hq;simp only[Bool.and_eq_true]at hu;exact j9.cD hI hB (Dc ho Hq hu.2 TV Ho Hp (.inl rfl)) .U rfl;simp at hu;exact hu.elim;cases hv;simp only[Bool.and_true]at hv;split at hv;rename_i hc;simp only[Bool.and_eq_true,decide_eq_true_eq]at hc;obtain⟨rfl,rfl⟩:=hc;cases hv;simp only[ov,fJ]at hn;cases hn;split at hu;rename_i e Hq;simp only[Bool.and_eq_true]at hu;obtain⟨u,e1,e2⟩:=Bw ho Hq hu.2 TV Ho Hp (.inl rfl);exact j9.cD hI hB e1 e2 rfl;simp at hu;exact hu.elim;cases hv;rename_i s rows;simp only at hv;split at hv;rename_i hc;simp only[Bool.and_eq_true,decide_eq_true_eq]at hc;obtain⟨⟨⟨rfl,h0⟩,h1⟩,h2⟩:=hc;cases hv;simp only[ov,fJ]at hn;cases hn;split at hu;rename_i e Hq;simp only[Bool.and_eq_true]at hu;obtain⟨u,e1,e2⟩:=Db ho Hq hu.2 TV Ho Hp h0 h1 h2;exact j9.cD hI hB e1 e2 rfl;simp at hu;exact hu.elim;cases hv;rename_i s rows;simp only at hv;split at hv;rename_i hc;simp only[Bool.and_eq_true,decide_eq_true_eq]at hc;obtain⟨⟨⟨rfl,h0⟩,h1⟩,h2⟩:=hc;cases hv;simp only[ov,fJ]at hn;cases hn;split at hu;rename_i e Hq;simp only[Bool.and_eq_true]at hu;obtain⟨u,e1,e2⟩:=Db ho Hq hu.2 TV.view Ho Hp h0 h1 h2;exact j9.cD hI hB e1 e2 rfl;simp at hu;exact hu.elim;cases hv;cases hv;cases ha;rename_i m hmx;obtain⟨z,rfl⟩:∃z,mx=some z:=by cases mx<;>simp_all
 simp only[Option.toList_some,List.map_cons,List.map_nil,lg,kQ]at hR2;have hz:=hR2.1.jP;split at ha;rename_i v hv;cases ha;unfold kq at hv;split at hv;simp at hv;simp only at hv;split at hv;rename_i hc;simp only[Bool.and_eq_true,decide_eq_true_eq,beq_iff_eq]at hc;obtain⟨⟨rfl,rfl⟩,rfl⟩:=hc;cases hv;simp only[ov,fJ]at hn;cases hn;split at hu;rename_i e Hq;simp only[Bool.and_eq_true]at hu;exact j9.cD hI hB (Dc ho Hq hu.2 TV Ho Hp (.inr ⟨z,rfl,Yv rfl,hz⟩)) .U rfl;simp at hu;exact hu.elim;cases hv;simp only at hv;split at hv;rename_i hc;simp only[Bool.and_eq_true,decide_eq_true_eq,beq_iff_eq]at hc;obtain⟨⟨rfl,rfl⟩,rfl⟩:=hc;cases hv;simp only[ov,fJ]at hn;cases hn;split at hu;rename_i e Hq;simp only[Bool.and_eq_true]at hu;obtain⟨u,e1,e2⟩:=Bw ho Hq hu.2 TV Ho Hp (.inr ⟨z,rfl,Yv rfl,hz⟩);exact j9.cD hI hB e1 e2 rfl;simp at hu;exact hu.elim;cases hv;rename_i s rows;simp only at hv;split at hv;rename_i hc;simp only[Bool.and_eq_true,decide_eq_true_eq]at hc;obtain⟨⟨rfl,rfl⟩,rfl⟩:=hc;cases hv;simp only[ov,fJ]at hn;cases hn;split at hu;rename_i e Hq;simp only[Bool.and_eq_true]at hu;obtain⟨u,e1,e2⟩:=Dd ho Hq hu.2 TV Ho Hp (Yv rfl) hz;exact j9.cD hI hB e1 e2 rfl;simp at hu;exact hu.elim;cases hv;rename_i s rows;simp only at hv;split at hv;rename_i hc;simp only[Bool.and_eq_true,decide_eq_true_eq]at hc;obtain⟨⟨rfl,rfl⟩,rfl⟩:=hc;cases hv;simp only[ov,fJ]at hn;cases hn;split at hu;rename_i e Hq;simp only[Bool.and_eq_true]at hu;obtain⟨u,e1,e2⟩:=Dd ho Hq hu.2 TV.view Ho Hp (Yv rfl) hz;exact j9.cD hI hB e1 e2 rfl;simp at hu;exact hu.elim;cases hv;cases hv;cases ha;cases ha;cases ha
end
end Ax
