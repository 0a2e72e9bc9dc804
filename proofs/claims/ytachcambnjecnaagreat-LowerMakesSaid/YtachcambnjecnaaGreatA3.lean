/- Part of a proof. -/
import Derived.Test.YtachcambnjecnaaGreatA2
import Derived.IntWalk

namespace Ax
open Go
variable {P:Program}{w w':World}{G G':bp}{β gZ:List m9}{ρ:Operand->Value}{o:Oper}
theorem w7{st:aj}{bx:bF}{cO:Nat->Nat}(hI:jQ w G st)(hB:lH w G β bx)(hX:∀b,cO b+gT b β bx+cz b G.ls st<=1){id:Nat}{loc loc':mC}{ob Im:dy}{e:fq}{v:Value}
  (hl:G.ls[id]?=some loc)(iu:st[id]?=some ob)(hs:sH w G w' G')(G4:G'.ls=G.ls.set id loc')(vg:qY w' G' Im loc')(ht:∀b p,G'.mM b=some p->b<w'.heap.size)
  (IL:∀b,b<w.heap.size->loc.jF≠some b->eR w G w' G' b) (P7:w.heap.size<=w'.heap.size) (Mr:w'.os=w.os) (zp:w'.output=w.output) (fR:kP w' G' β e v)
  (hc:∀b,cL b e v+je b loc' Im<=cO b+je b loc ob+(if w.heap.size<=b then 1 else 0)):kA w G β st bx cO w' G' β (st.set id Im) bx e v:=by
 have gQ:∀b,loc.jF=some b->je b loc ob ≥ 1:=by
  intro b hb;cases ob<;>simp[je,hb]
 refine⟨hs,Cx hI hs G4 (λi l Yj b hi h1 h2 h3=>?_) vg ht,nw hB hs λb hb=>?_,fR,λb=>?_,λb hb aW=>?_,P7,Mr,zp⟩;refine IL b ((hI.aT i Yj l h2 h1).held h3) λhb=>?_;have h4:=gQ b hb;have h5:=IE b G.ls st i id l Yj loc ob hi h1 h2 hl iu;have:=hX b;omega;refine IL b (hB.held hb) λoE=>?_;have h4:=gQ b oE;have h5:=pH b G.ls st id loc ob hl iu;have:=hX b;omega;have h1:=vJ b G.ls st id loc ob loc' Im hl iu;have h2:=hc b;rw[G4];omega;refine IL b aW λoE=>?_;have h4:=gQ b oE;have h5:=pH b G.ls st id loc ob hl iu;omega
theorem vH.flat{sz:Nat}{rows:List (List AV)}{loc:mC}(h:vH w G sz rows loc):cF w G rows.flatten loc.vals.flatten/\(∀b,cu b rows.flatten loc.vals.flatten=iP b rows loc.vals)/\(∀r∈loc.vals,r.length=sz)/\
  ∀b off,(∀(i:Nat) xs (j:Nat) x,loc.vals[i]?=some xs->xs[j]?=some x->w.cell? ⟨b,off+(i*sz+j),none⟩=some x)->∀(k:Nat) x,loc.vals.flatten[k]?=some x->w.cell? ⟨b,off+k,none⟩=some x:=by
 have Mw:∀r∈loc.vals,r.length=sz:=λr hr=>by
  obtain⟨i,hi,rfl⟩:=List.mem_iff_getElem.1 hr;have rV:i<rows.length:=by rw[<-h.tj];exact hi
  rw[<-(h.tZ i rows[i] loc.vals[i] (List.getElem?_eq_getElem rV) (List.getElem?_eq_getElem hi)).1];exact dg.1 h.FE _ (List.getElem_mem rV)
 refine⟨ue rows loc.vals h.tj.symm h.tZ,λb=>zq b rows loc.vals h.tj.symm λi r xs h1 h2=>(h.tZ i r xs h1 h2).1,Mw,λb off hc k x hx=>?_⟩;obtain⟨i,j,r,rfl,e2,e3⟩:=pI loc.vals k x Mw hx;exact hc i r j x e2 e3
theorem P8{st:aj}{bx:bF}{cO:Nat->Nat}(hI:jQ w G st)(hB:lH w G β bx){sz:Nat}{a:Option Addr}(o9:a.isSome=true) :
  ∃G',kA w G β st bx cO w G' β (st++[.rows 0 sz []]) bx (.val (.mu st.length 0)) (.slice a 0 0):=by
 have IJ:∀(id:Nat) loc,G.ls[id]?=some loc->∃loc',(G.ls++[⟨a,0,0,sz,0,false,[]⟩])[id]?=some loc'/\loc.cy<=loc'.cy/\(loc.cy=loc'.cy\/loc.mp=true->loc'.hd=loc.hd):=λid loc h=>
  ⟨loc,by rw[List.getElem?_append_left (List.getElem?_eq_some_iff.1 h).1];exact h,Nat.le_refl _,λ_=>rfl⟩
 have hs:sH w G w ⟨G.ls++[⟨a,0,0,sz,0,false,[]⟩],G.mM⟩:=⟨λ_ _ h=>⟨rfl,h⟩,IJ⟩;refine⟨⟨G.ls++[⟨a,0,0,sz,0,false,[]⟩],G.mM⟩,hs,⟨by simp[hI.len],λid ob loc h1 h2=>?_,hI.nO⟩,nw hB hs λb _=>⟨rfl,rfl⟩,.mu _ _ _ ⟨a,0,0,sz,0,false,[]⟩ ⟨_,_,_,rfl⟩ ?_ (Nat.le_refl _) λ_=>rfl,λb=>?_,λb _ _=>⟨rfl,rfl⟩,Nat.le_refl _,rfl,rfl⟩;by_cases Kl:id<st.length;rw[List.getElem?_append_left Kl]at h1;simp only at h2;rw[List.getElem?_append_left (by rw[hI.len];exact Kl)]at h2;exact(hI.aT id ob loc h1 h2).jK hs λb _=>⟨rfl,rfl⟩;rw[List.getElem?_append_right (by omega)]at h1;simp only at h2;rw[List.getElem?_append_right (by rw[hI.len];omega),hI.len]at h2;have h0:id-st.length=0:=by have:=(List.getElem?_eq_some_iff.1 h1).1;simp at this;omega
 rw[h0]at h1 h2;simp at h1 h2;subst h1;subst h2;exact⟨rfl,rfl,by simp[bN],by simp,rfl,rfl,rfl,λi r xs h=>by simp at h,.inl ⟨rfl,rfl,o9⟩⟩;simp only;rw[List.getElem?_append_right (by rw[hI.len];exact Nat.le_refl _),hI.len];simp;simp only[cL,gu];rw[sx b _ _ _ _ hI.len];have h0:cz b [⟨a,0,0,sz,0,false,[]⟩] [.rows 0 sz []]=0:=by simp[cz,je,mC.jF,iP]
 rw[h0];omega
structure acI (P:Program)(t tx ty e:TypeId)(sz bytes:Nat)(x:Value)(n:Nat)(news:List Value)(w:World):Prop where
 newsLen:news.length=n*sz
 Cy:n=0->∀base jN nF,jN<=nF->(Builtin.append_ #[t,tx] ty #[.slice base jN nF,x]).run P w=.ok (.slice base jN nF) w
 cR:∀(b off jN nF:Nat) (fP:Array Value) (e0:TypeId),w.heap[b]?=some (.cells fP e0 (0,0))->jN+n<=nF->off+nF*sz<=fP.size->
  (Builtin.append_ #[t,tx] ty #[.slice (some ⟨b,off,none⟩) jN nF,x]).run P w=.ok (.slice (some ⟨b,off,none⟩) (jN+n) nF) (w.setRow b (ag fP.toList (off+jN*sz) news).toArray)
 new:∀(base:Option Addr) (jN nF:Nat) (olds:List Value),(Builtin.firstCells sz jN (.slice base jN nF)).run P w.drew=.ok olds.toArray w.drew->olds.length=jN*sz->nF<jN+n->(jN+n)*bytes<=140737488355328->
  ∃cap c,(Builtin.append_ #[t,tx] ty #[.slice base jN nF,x]).run P w=.ok (.slice (some ⟨w.heap.size,0,none⟩) (jN+n) cap) (w.drew.alloc (.cells c e))/\jN+n<=cap/\cap*sz<=c.size/\
   ∀(k:Nat) v,(olds++news)[k]?=some v->c[k]?=some v
theorem P9{t tx ty e:TypeId}{sz bytes:Nat}{i:TypeInfo}{z:Value}(h:KI P t tx e sz bytes i z){x:Value}{n:Nat}{news:List Value}(hs:Go.Src P sz tx x n news w):acI P t tx ty e sz bytes x n news w where
 newsLen:=hs.newsLen
 Cy:=λh0 base jN nF hle=>by
  subst h0;have hn:news=[]:=List.eq_nil_of_length_eq_zero (by simpa using hs.newsLen);subst hn;exact run_append_nothing w t tx ty e i h.ht h.hi base jN nF hle x (by rw[h.dF];exact hs)
 cR:=λb off jN nF fP e0 hg h1 h2=>rq h b off jN nF fP e0 hg x n news hs h1 h2
 new:=λbase jN nF olds hold Uk hg hb=>ru h base jN nF olds hold Uk x n news hs hg hb
theorem Yk{t tx ty e:TypeId}{sz bytes:Nat}{st:aj}{bx:bF}(hI:jQ w G st)(hB:lH w G β bx){cO:Nat->Nat}(hX:∀b,cO b+gT b β bx+cz b G.ls st<=1)
  {s:AV}{vs vx:Value}(hs:bC w G s vs){new:List (List AV)}{news:List Value}(fR:cF w G new.flatten news)(xT:acI P t tx ty e sz bytes vx new.length news w)(kB:∀r∈new,AV.bq r=true)(jy:∀r∈new,AV.eY r=true)
  {wl af:Nat} {bV:aj} {gC:bF} {r:fq} (ha:vA wl af sz bytes s new st bx=some (r,bV,gC)) :
  ∃v w' G',(Builtin.append_ #[t,tx] ty #[vs,vx]).run P w=.ok v w'/\kA w G β st bx cO w' G' β bV gC r v:=by
 unfold vA at ha
 ·split at ha
  ·rename_i cJ;have TP:∀b xs,cu b new.flatten xs=0:=λb xs=>eE b _ _ ((de _).2 λx hx=>by
    obtain⟨r,hr,hx⟩:=List.mem_flatten.1 hx;exact(de r).1 (jy r hr) x hx)
   have sM:new=[]->news=[]:=λh0=>by
    subst h0;have:=fR.1;simp at this;exact List.eq_nil_of_length_eq_zero this.symm
   have fresh:∀base,(Builtin.firstCells sz 0 (.slice base 0 0)).run P w.drew=.ok ([]:List Value).toArray w.drew->new.length*bytes<=cR->(new=[]->base.isSome=true)->
     ∃v w' G',(Builtin.append_ #[t,tx] ty #[.slice base 0 0,vx]).run P w=.ok v w'/\kA w G β st bx cO w' G' β (st++[.rows 0 sz new]) bx (.val (.mu st.length 0)) v:=by
    intro base hf hr Yl;by_cases jn:new=[];have:=sM jn;subst this;subst jn;have:=xT.Cy rfl base 0 0 (Nat.le_refl _);obtain⟨G',hA⟩:=P8 (w:=w) (G:=G) (β:=β) (cO:=cO) (sz:=sz) (a:=base) hI hB (Yl rfl);exact⟨_,_,_,this,hA⟩;have hn:0<new.length:=List.length_pos_iff.2 jn;obtain⟨cap,c,e1,e2,e3,e4⟩:=xT.new base 0 0 [] hf (by simp) (by omega) (by simpa [cR] using hr);simp only[Nat.zero_add,List.nil_append]at e1 e2 e4;obtain⟨G',hA,_⟩:=vM (w':=w.drew.alloc (.cells c e)) (cO:=cO) hI hB rfl rfl rfl cJ kB fR (by omega) e3 e2 e4 (λb=>by rw[TP];omega);exact⟨_,_,G',e1,hA⟩
   split at ha;split at ha;rename_i AO;cases ha;have h0:new=[]:=(by simpa using AO);have:=sM h0;subst this;subst h0;cases hs;have:=xT.Cy rfl none 0 0 (Nat.le_refl _);exact⟨_,_,_,this,kA.nR hI hB (bC.U) λb=>by simp[cL,gu]⟩;split at ha;rename_i hr;cases ha;cases hs;exact fresh none (run_firstCells_none _ _ _ _ _) hr λh=>absurd h (by rename_i AO;simpa using AO);cases ha;split at ha;rename_i hr;cases ha;cases hs with
   |mK a=>exact fresh (some a) (by simp[Builtin.firstCells,loadCells,loadCellsFrom]) hr λ_=>rfl
   cases ha
   ·rename_i id cy;split at ha
    ·rename_i v lF kJ iu;split at ha
     ·rename_i hc;simp only[Bool.and_eq_true,decide_eq_true_eq]at hc;obtain⟨⟨⟨⟨rfl,rfl⟩,hr⟩,_⟩,_⟩:=hc;cases ha;obtain⟨loc,hl,E2,Ca,jv⟩:=hI.loc iu;cases hs with
      |mu _ _ _ loc' hp sJ FC he=>
      rw[hl]at sJ;cases sJ;have cY:=he (by omega);subst cY;obtain⟨KK,hfc,hfv,Qa⟩:=jv.flat;have IJ:∀l':mC,l'.cy=v+1->∀(i:Nat) l,G.ls[i]?=some l->∃l'',(G.at id l').ls[i]?=some l''/\l.cy<=l''.cy/\(l.cy=l''.cy\/l.mp=true->l''.hd=l.hd):=λl' hv=>
       GZ hl (by omega) λh=>by rcases h with h|h<;>simp_all<;>omega
      have Kn:∀l':mC,(G.at id l').ls[id]?=some l':=λl'=>by
       simp only[bp.at];rw[List.getElem?_set,if_pos rfl,if_pos (List.getElem?_eq_some_iff.1 hl).1]
      by_cases jn:new=[];have:=sM jn;subst this;subst jn;have hle:loc.len<=loc.cap:=by
       rcases jv.sK with⟨h0,h1,_⟩|⟨b,off,c,e',AL,g8,iC,dF,hlen,jz,fA⟩;rw[jv.len,h1];simp;rw[jv.len];exact hlen
      have:=xT.Cy rfl loc.a loc.len loc.cap hle;have Cc:sH w G w (G.at id { loc with cy:=v+1 }):=⟨λ_ _ h=>⟨rfl,h⟩,IJ _ rfl⟩;refine⟨_,_,G.at id { loc with cy:=v+1 },this,w7 hI hB hX hl iu Cc rfl ?_ hI.nO (λb _ _=>⟨rfl,rfl⟩) (Nat.le_refl _) rfl rfl (.mu _ _ _ { loc with cy:=v+1 } ⟨_,_,_,rfl⟩ (Kn _) (Nat.le_refl _) λ_=>rfl) λb=>?_⟩;have:=(qY.jK (w':=w) (G':=G.at id { loc with cy:=v+1 }) (show qY w G (.rows v lF kJ) loc from⟨E2,Ca,jv⟩) Cc λb _=>⟨rfl,rfl⟩);obtain⟨_,_,h3⟩:=this;rw[List.append_nil];exact⟨E2,rfl,h3.FE,h3.E1,h3.len,h3.size,h3.tj,h3.tZ,h3.sK⟩;simp only[cL,gu,List.append_nil];show 0+je b loc (.rows v lF kJ)<=cO b+je b loc (.rows v lF kJ)+_;omega;have hn:0<new.length:=List.length_pos_iff.2 jn;have ku:=By jv.FE cJ;have ye:(kJ++new).flatten=kJ.flatten++new.flatten:=List.flatten_append;have Uk:loc.vals.flatten.length=kJ.length*lF:=(by rw[<-KK.1];exact gx kJ (dg.1 jv.FE));have P6:news.length=new.length*lF:=xT.newsLen;by_cases mE:kJ.length+new.length<=loc.cap;rcases jv.sK with⟨h0,h1,_⟩|⟨b,off,c,e',AL,g8,iC,dF,hlen,jz,fA⟩;omega;have hle:off+kJ.length*lF+news.length<=c.size:=by
       rw[P6];have:(kJ.length+new.length)*lF<=loc.cap*lF:=Nat.mul_le_mul_right _ mE;rw[Nat.add_mul]at this;omega
      have e1:=xT.cR b off kJ.length loc.cap c e' iC mE dF;rw[AL,jv.len];have acJ:=IJ ⟨some ⟨b,off,none⟩,loc.cap,(kJ++new).length,lF,v+1,false,rW lF (kJ++new).length (loc.vals.flatten++news)⟩ rfl;have hW:Wr w G (w.setRow b (ag c.toList (off+kJ.length*lF) news).toArray) ⟨(G.at id ⟨some ⟨b,off,none⟩,loc.cap,(kJ++new).length,lF,v+1,false,rW lF (kJ++new).length (loc.vals.flatten++news)⟩).ls,λb'=>if b'=b then some 0 else G.mM b'⟩ b:=
       G5 iC hle jz (Nat.zero_le _) (Nat.le_refl _) acJ
      have gQ:loc.jF=some b:=(by unfold mC.jF;rw[if_neg (by omega),AL];rfl);refine⟨_,_,⟨(G.at id ⟨some ⟨b,off,none⟩,loc.cap,(kJ++new).length,lF,v+1,false,rW lF (kJ++new).length (loc.vals.flatten++news)⟩).ls,λb'=>if b'=b then some 0 else G.mM b'⟩,e1,?_⟩;refine w7 hI hB hX hl iu hW.jK rfl ⟨rfl,rfl,rj (b:=b) (off:=off) (c:=(ag c.toList (off+kJ.length*lF) news).toArray) (e:=e') (xs:=loc.vals.flatten++news) ku (qo jv.E1 kB) ?_ rfl rfl rfl rfl g8 (setRow_heap w b c _ e' (0,0) iC) (by rw[List.size_toArray,eU];simpa using dF) (by simpa using mE) (by simp) λk x hk=>?_⟩
       (hW.nO hI) (λb' _ oE=>hW.kY λe=>oE (by rw[gQ,e])) (by simp) rfl rfl (.mu _ _ _ _ ⟨_,_,_,rfl⟩ (Kn _) (Nat.le_refl _) λ_=>by simp) λb'=>?_
      rw[ye];refine(KK.mono hW.jK λb' oE=>hW.kY λe=>?_).append (fR.mono hW.jK λb' oE=>by rw[TP]at oE;omega);subst e;rw[hfc]at oE;have h1:=hX b';have h2:=pH b' G.ls st id loc _ hl iu;simp only[je,gQ,if_true]at h2;omega;rw[vO iC hle];by_cases KJ:k<loc.vals.flatten.length;rw[List.getElem?_append_left KJ]at hk;rw[if_neg (by omega)];exact Qa b off fA k x hk;rw[List.getElem?_append_right (by omega)]at hk;have aW:=(List.getElem?_eq_some_iff.1 hk).1;rw[if_pos (by omega),show off+k-(off+kJ.length*lF)=k-loc.vals.flatten.length by omega];exact hk;have Qb:(⟨some ⟨b,off,none⟩,loc.cap,(kJ++new).length,lF,v+1,false,rW lF (kJ++new).length (loc.vals.flatten++news)⟩:mC).jF=loc.jF:=by
       rw[gQ];unfold mC.jF;rw[if_neg (show ¬loc.cap=0 by omega)];rfl
      simp only[cL,gu,je];rw[Qb,ud b' (kJ++new) _ (dg.1 ku) (by rw[ye,List.length_append,List.length_append,KK.1,fR.1]),ye,gH b' _ _ _ _ KK.1,TP,hfc];omega;have hf:(Builtin.firstCells lF loc.len (.slice loc.a loc.len loc.cap)).run P w.drew=.ok loc.vals.flatten.toArray w.drew:=by
       rcases jv.sK with⟨h0,h1,_⟩|⟨b,off,c,e',AL,g8,iC,dF,hlen,jz,fA⟩;have:loc.vals=[]:=by
        have:=jv.tj;rw[h1]at this;exact List.eq_nil_of_length_eq_zero (by simpa using this)
       rw[jv.len,h1,this];cases loc.a<;>simp[Builtin.firstCells,loadCells,loadCellsFrom];rw[AL,jv.len];exact run_firstCells_some w.drew lF kJ.length ⟨b,off,none⟩ kJ.length loc.cap _ Uk (λj v hj=>by rw[mN,FL];exact Qa b off fA j v hj)
      obtain⟨NW,c,e1,e2,e3,e4⟩:=xT.new loc.a loc.len loc.cap loc.vals.flatten hf (by rw[Uk,jv.len]) (by rw[jv.len];omega) (by rw[jv.len];exact hr);rw[jv.len,<-List.length_append]at e2;have hcp:0<NW:=(by rw[List.length_append]at e2;omega);have hw:(w.drew.alloc (.cells c e)).heap=w.heap.push (.cells c e):=rfl;have hlN:(G.new w.heap.size (some 0) []).ls[id]?=some loc:=(by simp only[bp.new,List.append_nil];exact hl);have Cc:sH w G (w.drew.alloc (.cells c e)) ((G.new w.heap.size (some 0) []).at id ⟨some ⟨w.heap.size,0,none⟩,NW,(kJ++new).length,lF,v+1,false,rW lF (kJ++new).length (loc.vals.flatten++news)⟩):=
       (sy hw (some 0) []).trans (P2 hlN (by simp;omega) λh=>by rcases h with h|h<;>simp_all<;>omega)
      refine⟨_,_,_,e1,w7 hI hB hX hl iu Cc (loc':=⟨some ⟨w.heap.size,0,none⟩,NW,(kJ++new).length,lF,v+1,false,rW lF (kJ++new).length (loc.vals.flatten++news)⟩) (by simp only[bp.at,bp.new,List.append_nil]) ⟨rfl,rfl,rj (b:=w.heap.size) (off:=0) (c:=c) (e:=e) (xs:=loc.vals.flatten++news) ku (qo jv.E1 kB) ?_ rfl rfl rfl rfl hcp (tq hw) (by simpa using e3) e2 (by simp[bp.at,bp.new]) λk x hk=>?_⟩
       (λb p hp=>?_) (λb hb _=>?_) (by rw[hw];simp) rfl rfl (.mu _ _ _ _ ⟨_,_,_,rfl⟩ (by simp only[bp.at];rw[List.getElem?_set,if_pos rfl,if_pos (List.getElem?_eq_some_iff.1 hlN).1]) (Nat.le_refl _) λ_=>by simp[jv.len]) λb'=>?_⟩
      rw[ye];exact(KK.mono Cc λb' oE=>iy (G:=G) hw (some 0) [] (KK.held oE)).append (fR.mono Cc λb' oE=>by rw[TP]at oE;omega);rw[Nat.zero_add];exact Dd hw (e4 k x hk);simp only[bp.at,bp.new]at hp;rw[hw,Array.size_push];split at hp;omega;have:=hI.nO b p hp;omega;exact iy (G:=G) hw (some 0) [] hb;have Qb:(⟨some ⟨w.heap.size,0,none⟩,NW,(kJ++new).length,lF,v+1,false,rW lF (kJ++new).length (loc.vals.flatten++news)⟩:mC).jF=some w.heap.size:=by
       unfold mC.jF;rw[if_neg (show ¬NW=0 by omega)];rfl
      simp only[cL,gu,je];rw[Qb,ud b' (kJ++new) _ (dg.1 ku) (by rw[ye,List.length_append,List.length_append,KK.1,fR.1]),ye,gH b' _ _ _ _ KK.1,TP,hfc];simp only[Option.some.injEq];by_cases hb:w.heap.size=b';subst hb;rw[if_pos (Nat.le_refl _)];simp;omega;rw[if_neg hb];omega
     cases ha
    cases ha
   cases ha
  cases ha
theorem NX{t tx ty e:TypeId}{sz bytes:Nat}{i:TypeInfo}{z:Value}(h:KI P t tx e sz bytes i z){st:aj}{bx:bF}(hI:jQ w G st)(hB:lH w G β bx){cO:Nat->Nat}(hX:∀b,cO b+gT b β bx+cz b G.ls st<=1)
  {s x:AV}{vs vx:Value}(hs:bC w G s vs)(hx:bC w G x vx){wl af:Nat}{bV:aj}{gC:bF}{r:fq}(ha:aV wl af (.jx sz bytes) [.val s,.val x] st bx=some (r,bV,gC)) :
  ∃v w' G',(Builtin.append_ #[t,tx] ty #[vs,vx]).run P w=.ok v w'/\kA w G β st bx cO w' G' β bV gC r v:=by
 simp only[aV]at ha;split at ha;cases ha;rename_i new vg;by_cases cJ:bN sz new=true;obtain⟨news,fR,xT,kB,jy,_⟩:=FK hI hx vg cJ h.kind;exact Yk hI hB hX hs fR (P9 h xT) kB jy ha;unfold vA at ha;rw[if_neg cJ]at ha;cases ha
end Ax
namespace Ax
open Go
variable {P:Program}{w w':World}{G G':bp}{β gZ:List m9}{ρ:Operand->Value}{o:Oper}
theorem zu{st:aj}(hI:jQ w G st){id cy i k sz:Nat}{v:Value}{rows:List (List AV)}{r:List AV}(hp:bC w G (.ptr id cy i k) v)(iu:st[id]?=some (.rows cy sz rows))(hr:rows[i]?=some r) :
  ∃loc b off c e xs,G.ls[id]?=some loc/\loc.mp=false/\loc.cy=cy/\vH w G sz rows loc/\v=.pointer (some ⟨b,off+(i*sz+k),none⟩)/\loc.a=some ⟨b,off,none⟩/\0<loc.cap/\loc.jF=some b/\
   w.heap[b]?=some (.cells c e (0,0))/\off+loc.cap*sz<=c.size/\rows.length<=loc.cap/\G.mM b=some 0/\loc.vals[i]?=some xs/\cF w G r xs/\
   ∀(i:Nat) xs (j:Nat) x,loc.vals[i]?=some xs->xs[j]?=some x->w.cell? ⟨b,off+(i*sz+j),none⟩=some x:=by
 obtain⟨loc,hl,E2,Ca,jv⟩:=hI.loc iu;cases hp with
 |ptr _ _ _ _ _ loc' hpp sJ hv he=>
 rw[hl]at sJ;cases sJ;obtain⟨a,AL,rfl⟩:=he Ca.symm;rcases jv.sK with⟨_,sM,_⟩|⟨b,off,c,e',KD,g8,iC,hle,hlen,jz,fA⟩;subst sM;simp at hr;rw[KD]at AL;cases AL;have hi:i<loc.vals.length:=by rw[jv.tj];exact(List.getElem?_eq_some_iff.1 hr).1
 have hv:=List.getElem?_eq_getElem hi;exact⟨loc,b,off,c,e',loc.vals[i],hl,E2,Ca,jv,by rw[jv.size],KD,g8,by unfold mC.jF;rw[if_neg (by omega),KD];rfl,iC,hle,hlen,jz,hv,jv.tZ i r _ hr hv,fA⟩
theorem jV{as vs:List AV}(h:AV.bq as=true)(k:AV.bq vs=true){n:Nat}(hn:n+vs.length<=as.length):AV.bq (ag as n vs)=true:=by
 rw[jU _ _ _ hn];simp only[AV.bq,List.all_eq_true,List.mem_append]at *;intro x hx;rcases hx with (hx|hx)|hx;exact h x (List.mem_of_mem_take hx);exact k x hx;exact h x (List.mem_of_mem_drop hx)
theorem Ul{t:TypeId}{x y:Operand}{n:Nat}(ho:o.op=.store t x y)(hn:dz P t n=true){st:aj}{bx:bF}(hI:jQ w G st)(hB:lH w G β bx){cO:Nat->Nat}(hX:∀b,cO b+gT b β bx+cz b G.ls st<=1)
  {p v:AV}(hp:bC w G p (ρ x))(hv:bC w G v (ρ y))(jO:∀b,gu b v (ρ y)<=cO b){wl af:Nat}{bV:aj}{gC:bF}{r:fq}(ha:aV wl af (.store n) [.val p,.val v] st bx=some (r,bV,gC)) :
  ∃w' G',(execOp ρ o).run P w=.ok .skip w'/\kA w G β st bx cO w' G' β bV gC r undef:=by
 simp only[aV]at ha;split at ha;rename_i lp;simp only[Bool.and_eq_true,decide_eq_true_eq]at lp;obtain⟨Um,Ff⟩:=lp;split at ha;rename_i kL hw;cases ha;unfold cV at hw;split at hw;rename_i id cy i k;split at hw;rename_i ve sz rows iu;split at hw;rename_i GS;simp only[Bool.and_eq_true,decide_eq_true_eq]at GS;obtain⟨rfl,_⟩:=GS;split at hw;rename_i row cZ;split at hw;rename_i cJ;cases hw;obtain⟨loc,b,off,c,e,xs,hl,E2,Ca,jv,G6,AL,g8,gQ,iC,hle,hlen,jz,KL,mF,fA⟩:=zu hI hp iu cZ;obtain⟨Cz,Mn⟩:=hv.cells;have ni:row.length=sz:=dg.1 jv.FE row (dm cZ);have hxl:xs.length=sz:=by rw[<-mF.1];exact ni
 have hi:i<rows.length:=(List.getElem?_eq_some_iff.1 cZ).1;have FM:(ρ y).cells.toList.length=v.cells.length:=Cz.1.symm;have P1:=Cz.Ye Ff;have IM:off+(i*sz+k)+(ρ y).cells.toList.length<=c.size:=by
  have h1:(i+1)*sz<=loc.cap*sz:=Nat.mul_le_mul_right _ (by omega);rw[Nat.succ_mul]at h1;omega
 have Fg:=lQ (P:=P) b (off+(i*sz+k)) e (ρ y).cells.toList c w iC IM P1;have IJ:=GZ (loc':={ loc with vals:=loc.vals.set i (ag xs k (ρ y).cells.toList) }) hl (Nat.le_refl _) λ_=>rfl;have hW:Wr w G (w.setRow b (ag c.toList (off+(i*sz+k)) (ρ y).cells.toList).toArray) ⟨(G.at id { loc with vals:=loc.vals.set i (ag xs k (ρ y).cells.toList) }).ls,λb'=>if b'=b then some 0 else G.mM b'⟩ b:=
  G5 iC IM jz (Nat.zero_le _) (Nat.le_refl _) IJ
 have mh:cO b=0/\iP b rows loc.vals=0:=by
  have h1:=hX b;have h2:=pH b G.ls st id loc _ hl iu;simp only[je,gQ,if_true]at h2;omega
 refine⟨_,⟨(G.at id { loc with vals:=loc.vals.set i (ag xs k (ρ y).cells.toList) }).ls,λb'=>if b'=b then some 0 else G.mM b'⟩,?_,w7 hI hB hX hl iu hW.jK rfl ⟨E2,Ca,?_⟩ (hW.nO hI) (λb' _ oE=>hW.kY λe=>oE (by rw[gQ,e])) (by simp) rfl rfl trivial λb'=>?_⟩;have dF:(ρ y).cells.size=n:=by rw[<-Um,Cz.1];simp
 simp only[execOp,ho,G6,Sem.run_bind,Instr.storeAt,Instr.sureAddr,Sem.run_pure,Result.andThen_ok,storeVar,fo hn,dF,ne_eq,not_true_eq_false,if_false,Fg];have acK:cF (w.setRow b (ag c.toList (off+(i*sz+k)) (ρ y).cells.toList).toArray) ⟨(G.at id { loc with vals:=loc.vals.set i (ag xs k (ρ y).cells.toList) }).ls,λb'=>if b'=b then some 0 else G.mM b'⟩ v.cells (ρ y).cells.toList:=
  Cz.mono hW.jK λb' oE=>hW.kY λe=>by
   subst e;rw[Mn]at oE;have:=jO b';omega
 have hold:∀(i':Nat) r' Ko,rows[i']?=some r'->loc.vals[i']?=some Ko->cF (w.setRow b (ag c.toList (off+(i*sz+k)) (ρ y).cells.toList).toArray) ⟨(G.at id { loc with vals:=loc.vals.set i (ag xs k (ρ y).cells.toList) }).ls,λb'=>if b'=b then some 0 else G.mM b'⟩ r' Ko:=λi' r' Ko h1 h2=>
  (jv.tZ i' r' Ko h1 h2).mono hW.jK λb' oE=>hW.kY λe=>by
   subst e;have:=w6 b' rows loc.vals i' r' Ko h1 h2;omega
 refine⟨dg.2 λr' xS=>?_,λr' xS=>?_,by simp[jv.len],jv.size,by simp[jv.tj],λi' r' Ko h1 h2=>?_,.inr ⟨b,off,_,e,AL,g8,setRow_heap w b c _ e (0,0) iC,by rw[List.size_toArray,eU];simpa using hle,by simpa using hlen,by simp,λi' Ko j z h1 h2=>?_⟩⟩;rcases List.mem_or_eq_of_mem_set xS with h|h;exact dg.1 jv.FE r' h;rw[h,eU];exact ni;rcases List.mem_or_eq_of_mem_set xS with h|h;exact jv.E1 r' h;rw[h];exact jV (jv.E1 row (dm cZ)) Ff cJ;simp only at h2;rw[List.getElem?_set]at h1 h2;by_cases KM:i=i';subst KM;rw[if_pos rfl,if_pos hi]at h1;rw[if_pos rfl,if_pos (List.getElem?_eq_some_iff.1 KL).1]at h2;cases h1;cases h2;exact(hold i row xs cZ KL).ag acK cJ;rw[if_neg KM]at h1 h2;exact hold i' r' Ko h1 h2;simp only at h1;rw[vO iC IM];rw[List.getElem?_set]at h1;by_cases KM:i=i';subst KM;rw[if_pos rfl]at h1;split at h1;cases h1;rw[ju _ _ _ _ (by rw[FM,hxl,<-ni];exact cJ)]at h2;split at h2;rename_i hj;rw[if_pos (by omega),show off+(i*sz+j)-(off+(i*sz+k))=j-k by omega];exact h2;rename_i hj;rw[if_neg (by omega)];exact fA i xs j z KL h2;cases h1;rw[if_neg KM]at h1;have hj:j<sz:=by
  have h3:=(List.getElem?_eq_some_iff.1 h2).1;have h4:=jv.flat.2.2.1 Ko (dm h1);omega
 have:¬(off+(i*sz+k)<=off+(i'*sz+j)/\off+(i'*sz+j)<off+(i*sz+k)+(ρ y).cells.toList.length):=by
  rcases Nat.lt_or_gt_of_ne KM with aW|aW;have h5:(i+1)*sz<=i'*sz:=Nat.mul_le_mul_right _ aW;rw[Nat.succ_mul]at h5;omega;have h5:(i'+1)*sz<=i*sz:=Nat.mul_le_mul_right _ aW;rw[Nat.succ_mul]at h5;omega
 rw[if_neg this];exact fA i' Ko j z h1 h2;have h1:=tn b' rows loc.vals i row xs (ag row k v.cells) (ag xs k (ρ y).cells.toList) cZ KL;have h2:=qZ b' row v.cells xs (ρ y).cells.toList k mF.1 Cz.1 cJ;have h3:=jO b';rw[Mn]at h2;have hb:(if ({ loc with vals:=loc.vals.set i (ag xs k (ρ y).cells.toList) }:mC).jF=some b' then 1 else 0)=(if loc.jF=some b' then 1 else 0):=rfl;simp only[cL,je];rw[hb];omega;cases hw;cases hw;cases hw;cases hw;cases hw;cases ha;cases ha
theorem bC.dJ{a:AV}{v:Value}(h:bC w G a v):bC w G a.dJ v:=by
 cases h with
 |iO sz rows a cap nE g8 cJ jy qI wU hc hr jz gQ=>exact .gone _ rfl|raw sz rows a cap nE g8 cJ jy qI wU hc hr jz gQ=>exact .gone _ rfl|agg cs vs hl h=>exact .agg cs vs hl h|fm cs vs hl h=>exact .fm cs vs hl h|undef=>exact .undef|gone v h=>exact .gone v h|bool b=>exact .bool b|int k n=>exact .int k n|str l s h=>exact .str l s h|fF=>exact .fF|U=>exact .U|gn=>exact .gn|jc=>exact .jc|ke=>exact .ke|dL sz rows a cap nE g8 cJ jy qI wU hc hr=>exact .dL sz rows a cap nE g8 cJ jy qI wU hc hr|mK a=>exact .mK a|mu id cy v loc hp hl hv he=>exact .mu id cy v loc hp hl hv he|ptr id cy i k v loc hp hl hv he=>exact .ptr id cy i k v loc hp hl hv he|qd sz rows i k a cap hl=>exact .qd sz rows i k a cap hl|map id loc b hl hm hb=>exact .map id loc b hl hm hb|fn f first lK vf vc hl hm hn h k=>exact .fn f first lK vf vc hl hm hn h k
theorem Qc(b:Nat)(a:AV)(v:Value)(h:a.cx=true):gu b a.dJ v=0:=by
 refine fz b _ _ ?_;cases a<;>simp_all [AV.dJ,AV.cC,AV.cx]
theorem IN(a:AV)(h:a.cx=true):a.dJ.cx=true:=by
 cases a<;>simp_all [AV.dJ,AV.cx]
theorem cF.dJ{as:List AV}{xs:List Value}(h:cF w G as xs):cF w G (as.map AV.dJ) xs:=by
 refine⟨by simp[h.1],λi c v h1 h2=>?_⟩;simp only[List.getElem?_map,Option.map_eq_some_iff]at h1;obtain⟨c',h1,rfl⟩:=h1;exact(h.2 i c' v h1 h2).dJ
theorem FO(b:Nat):∀(as:List AV)(xs:List Value),AV.bq as=true->cu b (as.map AV.dJ) xs=0
 |[],xs,_=>by simp[cu]|a::as,[],_=>by simp[cu]|a::as,x::xs,h=>by
  simp only[AV.bq,List.all_cons,Bool.and_eq_true]at h;have:=FO b as xs h.2;simp only[List.map_cons,cu,Qc b a x h.1,this]
theorem Fh{as:List AV}(h:AV.bq as=true):AV.bq (as.map AV.dJ)=true:=by
 simp only[AV.bq,List.all_eq_true,List.mem_map]at *;rintro x ⟨y,hy,rfl⟩;exact IN y (h y hy)
theorem G7{as:List AV}(h:AV.bq as=true)(k n:Nat):AV.bq ((as.drop k).take n)=true:=by
 simp only[AV.bq,List.all_eq_true]at *;intro x hx;exact h x (List.mem_of_mem_drop (List.mem_of_mem_take hx))
theorem uf{α:Type}(xs:List α)(k n:Nat)(h:k+n<=xs.length):ag xs k ((xs.drop k).take n)=xs:=by
 rw[jU _ _ _ (by simp;omega)];have:((xs.drop k).take n).length=n:=by simp;omega
 rw[this,List.append_assoc,<-List.drop_drop,List.take_append_drop,List.take_append_drop]
theorem IP{r cs:List AV}{xs:List Value}{k n:Nat}(hr:cF w G r xs)(hc:cut r k n=some cs)(kB:AV.bq r=true) :
  cF w G (ag r k (cs.map AV.dJ)) xs/\AV.bq (ag r k (cs.map AV.dJ))=true/\∀b,cu b (ag r k (cs.map AV.dJ)) xs+cu b cs ((xs.drop k).take n)=cu b r xs:=by
 obtain⟨rfl,hle,hlen⟩:=ri hc;have KC:=G7 kB k n;have Qd:k+n<=xs.length:=by rw[<-hr.1];exact hle
 have W5:=uf xs k n Qd;refine⟨?_,jV kB (Fh KC) (by rw[List.length_map];omega),λb=>?_⟩;have:=hr.ag ((hr.drop k).take n).dJ (n:=k) (by rw[List.length_map];omega);rw[W5]at this;exact this;have h1:=lP b k r xs hr.1;have h2:=lP b n (r.drop k) (xs.drop k) (by simp[hr.1]);have h3:=FO b ((r.drop k).take n) ((xs.drop k).take n) KC;have e:cu b (ag r k (((r.drop k).take n).map AV.dJ)) xs=cu b (ag r k (((r.drop k).take n).map AV.dJ)) (ag xs k ((xs.drop k).take n)):=by rw[W5]
 rw[e,jU _ _ _ (by rw[List.length_map];omega),jU _ _ _ (by simp;omega),gH b _ _ _ _ (by have:=hr.1;simp;omega),gH b _ _ _ _ (by have:=hr.1;simp;omega),h3];have l1:(((r.drop k).take n).map AV.dJ).length=n:=by rw[List.length_map];omega
 have l2:((xs.drop k).take n).length=n:=by simp;omega
 rw[l1,l2];rw[List.drop_drop,List.drop_drop]at h2;omega
theorem gb{α:Type}(l:List α)(i:Nat)(x:α)(h:l[i]?=some x):l.set i x=l:=by
 apply List.ext_getElem?;intro j;rw[List.getElem?_set];split;rename_i e;subst e;split;exact h.symm;rename_i hn;exact absurd (List.getElem?_eq_some_iff.1 h).1 hn
 rfl
theorem KN{t:TypeId}{x:Operand}{n:Nat}{agg:Bool}(ho:o.op=.load t x)(hn:dz P t n=true)(sL:nN P t=some agg)(mh:agg=false->n=1){st:aj}{bx:bF}(hI:jQ w G st)(hB:lH w G β bx){cO:Nat->Nat}(hX:∀b,cO b+gT b β bx+cz b G.ls st<=1)
  {p:AV}(hp:bC w G p (ρ x)){wl af:Nat}{bV:aj}{gC:bF}{r:fq}(ha:aV wl af (.load agg n true) [.val p] st bx=some (r,bV,gC)) :
  ∃v,(execOp ρ o).run P w=.ok (.value v) w/\kA w G β st bx cO w G β bV gC r v:=by
 simp only[aV,if_true]at ha;split at ha;rename_i cs Dg;split at ha;rename_i kL v hw hv;cases ha;unfold cV at hw;split at hw;rename_i id cy i k;split at hw;rename_i ve sz rows iu;split at hw;rename_i GS;simp only[Bool.and_eq_true,decide_eq_true_eq]at GS;obtain⟨rfl,_⟩:=GS;split at hw;rename_i row cZ;split at hw;rename_i cJ;cases hw;simp only[dM,iu,cZ,if_true]at Dg;obtain⟨loc,b,off,c,e,xs,hl,E2,Ca,jv,G6,AL,g8,gQ,iC,hle,hlen,jz,KL,mF,fA⟩:=zu hI hp iu cZ;obtain⟨t1,t2,t3⟩:=IP mF Dg (jv.E1 row (dm cZ));obtain⟨jO,Ym,IQ⟩:=ri Dg;have hxl:xs.length=row.length:=mF.1.symm;have Mx:((xs.drop k).take n).length=n:=by simp;omega
 have fR:cF w G cs ((xs.drop k).take n):=by rw[jO];exact(mF.drop k).take n
 obtain⟨u,h1,h2,h3⟩:=GU ho hn sL mh G6 Mx fR (λj z hz=>by
  rw[List.getElem?_take]at hz;split at hz;rw[List.getElem?_drop]at hz;rw[show off+(i*sz+k)+j=off+(i*sz+(k+j)) by omega];exact fA i xs (k+j) z KL hz;cases hz) hv
 refine⟨u,h1,w7 hI hB hX hl iu (sH.refl w G) (gb _ _ _ hl).symm ⟨E2,Ca,?_⟩ hI.nO (λb _ _=>⟨rfl,rfl⟩) (Nat.le_refl _) rfl rfl h2 λb'=>?_⟩;refine⟨dg.2 λr' xS=>?_,λr' xS=>?_,by simp[jv.len],jv.size,by simp[jv.tj],λi' r' Ko h1 h2=>?_,.inr ⟨b,off,c,e,AL,g8,iC,hle,by simpa using hlen,jz,fA⟩⟩;rcases List.mem_or_eq_of_mem_set xS with h|h;exact dg.1 jv.FE r' h;rw[h,eU];exact dg.1 jv.FE row (dm cZ);rcases List.mem_or_eq_of_mem_set xS with h|h;exact jv.E1 r' h;rw[h];exact t2;rw[List.getElem?_set]at h1;by_cases KM:i=i';subst KM;rw[if_pos rfl]at h1;split at h1;cases h1;rw[KL]at h2;cases h2;exact t1;cases h1;rw[if_neg KM]at h1;exact jv.tZ i' r' Ko h1 h2;have h4:=tn b' rows loc.vals i row xs (ag row k (cs.map AV.dJ)) xs cZ KL;rw[gb _ _ _ KL]at h4;have h5:=t3 b';have h6:=h3 b';simp only[cL,je];omega;cases hw;cases hw;cases hw;cases hw;cases hw;cases ha;cases ha
end Ax
namespace Ax
open Go
variable {P:Program}{w w':World}{G G':bp}{β gZ:List m9}{ρ:Operand->Value}{o:Oper}
def gp(nb:Option Nat)(β gZ:List m9):Prop:=∀(j:Nat) g,β[j]?=some g->∃g',gZ[j]?=some g'/\(nb≠some j->g'.jF=g.jF)
theorem gp.refl(nb:Option Nat)(β:List m9):gp nb β β:=λ_ g h=>⟨g,h,λ_=>rfl⟩
theorem gp.set{nb:Option Nat}{j:Nat}{g g':m9}(hg:β[j]?=some g)(h:nb≠some j->g'.jF=g.jF):gp nb β (β.set j g'):=by
 intro i x hx;by_cases hi:j=i;subst hi;rw[hg]at hx;cases hx;exact⟨g',by rw[List.getElem?_set,if_pos rfl,if_pos (List.getElem?_eq_some_iff.1 hg).1],h⟩;exact⟨x,by rw[List.getElem?_set,if_neg hi];exact hx,λ_=>rfl⟩
theorem Dh{st:aj}{bx:bF}{cO:Nat->Nat}(hI:jQ w G st)(hB:lH w G β bx)(hX:∀b,cO b+gT b β bx+cz b G.ls st<=1){j:Nat}{g g':m9}{row row':List AV}{e:fq}{v:Value}
  (hg:β[j]?=some g)(hr:bx[j]?=some row)(gQ:g'.jF=g.jF)(hs:sH w G w' G')(G4:G'.ls=G.ls)(vg:zo w' G' row' g')(ht:∀b p,G'.mM b=some p->b<w'.heap.size)
  (IL:∀b,b<w.heap.size->g.jF≠some b->eR w G w' G' b) (P7:w.heap.size<=w'.heap.size) (Mr:w'.os=w.os) (zp:w'.output=w.output) (fR:kP w' G' (β.set j g') e v)
  (hc:∀b,cL b e v+cu b row' g'.vals<=cO b+cu b row g.vals):kA w G β st bx cO w' G' (β.set j g') st (bx.set j row') e v:=by
 have key:∀b,g.jF=some b->1<=(if g.jF=some b then 1 else 0)+cu b row g.vals:=λb h=>by rw[if_pos h];omega
 refine⟨hs,vN hI hs G4 (λb hb=>IL b (hI.held hb) λh=>?_) ht,⟨by simp[hB.len],λi r x h1 h2=>?_⟩,fR,λb=>?_,λb hb aW=>IL b aW λh=>?_,P7,Mr,zp⟩;have h1:=key b h;have h2:=nQ b β bx j g row hg hr;have:=hX b;omega;rw[List.getElem?_set]at h1 h2;by_cases Cb:j=i;subst Cb;rw[if_pos rfl,if_pos (List.getElem?_eq_some_iff.1 hr).1]at h1;rw[if_pos rfl,if_pos (List.getElem?_eq_some_iff.1 hg).1]at h2;cases h1;cases h2;exact vg;rw[if_neg Cb]at h1 h2;refine(hB.box i r x h1 h2).jK hs λb hb=>IL b (hB.held (b:=b) (by have:=nQ b β bx i x r h2 h1;omega)) λh=>?_;have h3:=key b h;have h4:=IF b β bx i j x r g row (λe=>Cb e.symm) h2 h1 hg hr;have:=hX b;omega;have h1:=zn b β bx j g row g' row' hg hr;have h2:=hc b;rw[G4];rw[gQ]at h1;omega;have h1:=key b h;have h2:=nQ b β bx j g row hg hr;omega
theorem G8{bx:bF}(hB:lH w G β bx){j k:Nat}{v:Value}{row:List AV}(hp:kP w G β (.fp j k) v)(hr:bx[j]?=some row) :
  ∃g b c e,β[j]?=some g/\g.jF=some b/\v=.pointer (some ⟨b,k,none⟩)/\zo w G row g/\w.heap[b]?=some (.cells c e (0,0))/\row.length<=c.size/\G.mM b=some 0/\∀(k:Nat) x,g.vals[k]?=some x->w.cell? ⟨b,k,none⟩=some x:=by
 obtain⟨g,b,h1,h2,h3⟩:=hp;have hb:=hB.box j row g hr h1;rcases hb.sK with⟨h0,_⟩|⟨b',c,e,h4,h5,h6,h7,h8⟩;rw[h0]at h2;cases h2;rw[h2]at h4;cases h4;exact⟨g,b,c,e,h1,h2,h3,hb,h5,h6,h7,h8⟩
theorem Qe{t:TypeId}{x y:Operand}{j0 n:Nat}(ho:o.op=.store t x y)(hn:dz P t n=true){st:aj}{bx:bF}(hI:jQ w G st)(hB:lH w G β bx){cO:Nat->Nat}(hX:∀b,cO b+gT b β bx+cz b G.ls st<=1)
  {p v:fq}(hp:kP w G β p (ρ x))(hv:kP w G β v (ρ y))(jO:∀b,cL b v (ρ y)<=cO b){wl af:Nat}{bV:aj}{gC:bF}{r:fq}(ha:aV wl af (.jH j0 n) [p,v] st bx=some (r,bV,gC)) :
  ∃w' G' gZ,(execOp ρ o).run P w=.ok .skip w'/\kA w G β st bx cO w' G' gZ bV gC r undef/\gp none β gZ:=by
 unfold aV at ha;simp only at ha;split at ha;rename_i j k v heq;cases heq;split at ha;rename_i lp;simp only[Bool.and_eq_true,decide_eq_true_eq]at lp;obtain⟨⟨rfl,Um⟩,Ff⟩:=lp;split at ha;rename_i row hr;split at ha;rename_i cJ;cases ha;obtain⟨g,b,c,e,hg,gQ,G6,vh,iC,hle,jz,fA⟩:=G8 hB hp hr;obtain⟨Cz,Mn⟩:=bC.cells hv;have FM:(ρ y).cells.toList.length=n:=by rw[<-Um];exact Cz.1.symm
 have IM:k+(ρ y).cells.toList.length<=c.size:=by omega
 have Fg:=lQ (P:=P) b k e (ρ y).cells.toList c w iC IM (Cz.Ye Ff);have hW:Wr w G (w.setRow b (ag c.toList k (ρ y).cells.toList).toArray) ⟨G.ls,λb'=>if b'=b then some 0 else G.mM b'⟩ b:=G5 iC IM jz (Nat.zero_le _) (Nat.le_refl _) (Df G);have mh:cO b=0/\cu b row g.vals=0:=by
  have h1:=hX b;have h2:=nQ b β bx j0 g row hg hr;rw[if_pos gQ]at h2;omega
 refine⟨_,⟨G.ls,λb'=>if b'=b then some 0 else G.mM b'⟩,β.set j0 ⟨g.jF,ag g.vals k (ρ y).cells.toList⟩,?_,Dh hI hB hX hg hr rfl hW.jK rfl ⟨?_,jV vh.E1 Ff (by rw[Um];exact cJ),.inr ⟨b,_,e,gQ,setRow_heap w b c _ e (0,0) iC,?_,by simp,λi z hz=>?_⟩⟩ (hW.nO hI) (λb' _ oE=>hW.kY λe=>oE (by rw[gQ,e])) (by simp) rfl rfl trivial λb'=>?_,gp.set hg λ_=>rfl⟩;have dF:(ρ y).cells.size=n:=by simpa using FM
 simp only[execOp,ho,G6,Sem.run_bind,Instr.storeAt,Instr.sureAddr,Sem.run_pure,Result.andThen_ok,storeVar,fo hn,dF,ne_eq,not_true_eq_false,if_false,Fg];refine(vh.tU.mono hW.jK λb' oE=>hW.kY λe=>?_).ag (Cz.mono hW.jK λb' oE=>hW.kY λe=>?_) (by rw[Um];exact cJ);subst e;omega;subst e;rw[Mn]at oE;have:=jO b';simp only[cL]at this;omega;rw[eU,List.size_toArray,eU];simpa using hle;rw[vO iC IM];simp only at hz;rw[ju _ _ _ _ (by rw[FM];rw[<-vh.tU.1];exact cJ)]at hz;split at hz;rename_i hi;rw[if_pos hi];exact hz;rename_i hi;rw[if_neg hi];exact fA i z hz;have h2:=qZ b' row v.cells g.vals (ρ y).cells.toList k vh.tU.1 Cz.1 (by rw[Um];exact cJ);have h3:=jO b';rw[Mn]at h2;simp only[cL]at h3 ⊢;omega;cases ha;cases ha;cases ha;cases ha
theorem Un{t:TypeId}{x:Operand}{j0 n:Nat}{agg take:Bool}(ho:o.op=.load t x)(hn:dz P t n=true)(sL:nN P t=some agg)(mh:agg=false->n=1){st:aj}{bx:bF}(hI:jQ w G st)(hB:lH w G β bx){cO:Nat->Nat}(hX:∀b,cO b+gT b β bx+cz b G.ls st<=1)
  {p:fq}(hp:kP w G β p (ρ x)){wl af:Nat}{bV:aj}{gC:bF}{r:fq}(ha:aV wl af (.fD j0 agg n take) [p] st bx=some (r,bV,gC)) :
  ∃v,(execOp ρ o).run P w=.ok (.value v) w/\kA w G β st bx cO w G β bV gC r v:=by
 unfold aV at ha;simp only at ha;split at ha;rename_i j k heq;cases heq;split at ha;rename_i hj;subst hj;split at ha;rename_i row hr;split at ha;rename_i cs Qf;obtain⟨g,b,c,e,hg,gQ,G6,vh,iC,hle,jz,fA⟩:=G8 hB hp hr;obtain⟨jO,Ym,IQ⟩:=ri Qf;have hxl:g.vals.length=row.length:=vh.tU.1.symm;have Mx:((g.vals.drop k).take n).length=n:=by simp;omega
 have fR:cF w G cs ((g.vals.drop k).take n):=by rw[jO];exact(vh.tU.drop k).take n
 have qe:∀(j:Nat) y,((g.vals.drop k).take n)[j]?=some y->w.cell? ⟨b,k+j,none⟩=some y:=λj z hz=>by
  rw[List.getElem?_take]at hz;split at hz;rw[List.getElem?_drop]at hz;exact fA _ z hz;cases hz
 split at ha;split at ha;rename_i v hv;cases ha;obtain⟨u,h1,h2,h3⟩:=GU ho hn sL mh G6 Mx fR qe hv;obtain⟨t1,t2,t3⟩:=IP vh.tU Qf vh.E1;have:=Dh (e:=.val v) (v:=u) (g':=g) (row':=ag row k (cs.map AV.dJ)) hI hB hX hg hr rfl (sH.refl w G) rfl ⟨t1,t2,.inr ⟨b,c,e,gQ,iC,by rw[eU];exact hle,jz,fA⟩⟩ hI.nO (λb _ _=>⟨rfl,rfl⟩) (Nat.le_refl _) rfl rfl h2 λb'=>by
  have h4:=t3 b';have h5:=h3 b';simp only[cL];omega
 rw[gb _ _ _ hg]at this;exact⟨u,h1,this⟩;cases ha;split at ha;rename_i v hv;cases ha;obtain⟨u,h1,h2,h3⟩:=GU ho hn sL mh G6 Mx fR.view qe hv;refine⟨u,h1,kA.nR hI hB h2 λd=>?_⟩;simp only[cL,h3 d];rw[eE d _ _ (gD cs)];omega;cases ha;cases ha;cases ha;cases ha;cases ha
end Ax
namespace Ax
open Go
variable {P:Program}{w w':World}{G G':bp}{β gZ:List m9}{ρ:Operand->Value}{o:Oper}
theorem Di{r:Nat}{es:Array MapEntry}{clock:Nat}{ob:Obj}(h:w.heap[r]?=some (.map es clock)):(setObj r ob).run P w=.ok () { w with heap:=w.heap.setIfInBounds r ob }:=by
 simp[setObj,Sem.run,h]
theorem Dj{t:TypeId}{kk:SK}(ht:pG P t kk=true){k v:AV}{x y:Value}(hk:bC w G k x)(hv:bC w G v y)(hkn:k.cC=true)(Um:v.cC=true):∀(es vC:List (AV×AV))(fs:List MapEntry),yF w G es fs->E9 kk k v es=some vC->
  (∃i e u,sd kk k es=some (some u)/\fs[i]?=some e/\(∀(q:Option (Nat×Value)),(Instr.findKey t x fs).run P w=.ok q w->∃val,q=some (i,val))/\AG kk k (es[i]?.map (·.1) |>.getD .undef)=some true/\(∃a,es[i]?=some a/\bC w G a.1 e.key)/\yF w G vC (fs.set i { e with key:=x,val:=y }))\/
  (sd kk k es=some none/\∀born,yF w G vC (fs++[{ key:=x,val:=y,born:=born }])):=by
 have hu:∃d,P.underlying t=some d:=by
  unfold pG at ht;cases kk<;>simp only at ht<;>split at ht<;>(try cases ht)<;>exact⟨_,by assumption⟩
 obtain⟨d,hu⟩:=hu;intro es;induction es with
 |nil=>
  intro vC fs hM h;simp only[E9,Option.some.injEq]at h;subst h;have h0:fs=[]:=List.eq_nil_of_length_eq_zero (by simpa using hM.1);subst h0;refine .inr ⟨rfl,λborn=>⟨rfl,λi a b e h1 h2=>?_⟩⟩;cases i with
  |zero=>simp at h1 h2;obtain⟨rfl,rfl⟩:=h1;subst h2;exact⟨hk,hv,Um,hkn⟩|succ i=>simp at h1
 |cons c es ih=>
  intro vC fs hM h;obtain⟨a,u⟩:=c;cases fs with
  |nil=>have:=hM.1;simp at this|cons f fs=>
   obtain⟨g1,g2,g3,g4⟩:=hM.2 0 a u f rfl rfl;simp only[E9]at h;split at h;rename_i he;cases h;refine .inl ⟨0,f,u,by simp[sd,he],rfl,λq hq=>?_,by simpa using he,⟨(a,u),rfl,g1⟩,?_⟩;have hs:=ua ht hu he hk g1;have:(Instr.findKey t x (f::fs)).run P w=.ok (some (0,f.val)) w:=by simp[Instr.findKey,run_underlying hu,Instr.findNow,hs]
   rw[this]at hq;cases hq;exact⟨_,rfl⟩;refine⟨by simpa using hM.1,λi p q e h1 h2=>?_⟩;cases i with
   |zero=>simp at h1 h2;obtain⟨rfl,rfl⟩:=h1;subst h2;exact⟨hk,hv,Um,hkn⟩|succ i=>exact hM.2 (i+1) p q e (by simpa using h1) (by simpa using h2)
   rename_i he;split at h;rename_i r' xS;cases h;have hs:=ua ht hu he hk g1;have W6:∀es2 fs2,yF w G es2 fs2->yF w G ((a,u)::es2) (f::fs2):=λes2 fs2 h2=>⟨by simp[h2.1],λi p q e e1 e2=>by
    cases i with
    |zero=>simp at e1 e2;obtain⟨rfl,rfl⟩:=e1;subst e2;exact⟨g1,g2,g3,g4⟩|succ i=>exact h2.2 i p q e (by simpa using e1) (by simpa using e2)⟩
   rcases ih r' fs hM.tail xS with⟨i,e,u',f1,f2,f3,f4,f5,f6⟩|⟨f1,f2⟩;refine .inl ⟨i+1,e,u',by simp[sd,he,f1],by simpa using f2,λq hq=>?_,by simpa using f4,by simpa using f5,by simpa using W6 _ _ f6⟩;obtain⟨q0,e1,e2⟩:=uc ht hu hk es fs 0 _ hM.tail f1;obtain⟨q1,e3,e4⟩:=uc ht hu hk es fs 1 _ hM.tail f1;obtain⟨j0,e0,a1,_⟩:=e2;obtain⟨j1,e0',b1,b2,_⟩:=e4;have h0:(Instr.findKey t x fs).run P w=.ok q0 w:=(by simp[Instr.findKey,run_underlying hu,e1]);obtain⟨val,cY⟩:=f3 q0 h0;have:(Instr.findKey t x (f::fs)).run P w=.ok q1 w:=by simp[Instr.findKey,run_underlying hu,Instr.findNow,hs,e3]
   rw[this]at hq;cases hq;have key:∀(fs:List MapEntry) (s:Nat) (q:Option (Nat×Value)),Instr.findNow d x fs s=some q->Instr.findNow d x fs (s+1)=some (q.map λz=>(z.1+1,z.2)):=by
    intro fs;induction fs with
    |nil=>intro s q h;simp[Instr.findNow]at h ⊢;subst h;rfl|cons f fs ih=>
     intro s q h;simp only[Instr.findNow]at h ⊢;cases hsn:Instr.sameNow d x f.key with
     |none=>rw[hsn]at h;simp at h|some b=>
      rw[hsn]at h;cases b with
      |true=>simp at h ⊢;subst h;rfl|false=>simp at h ⊢;exact ih _ _ h
   have h3:=key fs 0 q0 e1;rw[Nat.zero_add]at h3;rw[e3]at h3;cases h3;rw[cY];exact⟨val,rfl⟩;exact .inr ⟨by simp[sd,he,f1],λborn=>W6 _ _ (f2 born)⟩;cases h;cases h
theorem IS{kk:SK}{a b:AV}{x y:Value}(h:AG kk a b=some true)(ha:bC w G a x)(hb:bC w G b y)(n:Nat):Instr.sameBits n y x=true:=by
 unfold AG at h;split at h;simp only[Option.some.injEq,beq_iff_eq]at h;rw[ha.jT,hb.jT,h];simp[Instr.sameBits];split at h;rename_i eK;subst eK;simp only[Option.some.injEq,beq_iff_eq]at h;rw[ha.jP,hb.jP,h];simp[Instr.sameBits];cases h;simp only[Option.some.injEq,beq_iff_eq]at h;obtain⟨s,rfl,rfl⟩:=ha.mT;obtain⟨s',rfl,h2⟩:=hb.mT;have:s=s':=ByteArray.ext (Array.toList_inj.1 (h.trans h2.symm));subst this;simp only[Instr.sameBits];rw[beq_toListBytes];exact beq_self_eq_true _;cases h
theorem Bz{t kt et:TypeId}{m k x:Operand}(ho:o.op=.mapUpdate t m k x\/o.op=.insert t m k x)(hu:P.underlying t=some (.map kt et)){kk:SK}(ht:pG P kt kk=true){st:aj}{bx:bF}(hI:jQ w G st)(hB:lH w G β bx){cO:Nat->Nat}(hX:∀b,cO b+gT b β bx+cz b G.ls st<=1)
  {am ak av:AV}(hm:bC w G am (ρ m))(hk:bC w G ak (ρ k))(hv:bC w G av (ρ x)){wl af:Nat}{bV:aj}{gC:bF}{r:fq}(ha:aV wl af (.mapUpdate kk) [.val am,.val ak,.val av] st bx=some (r,bV,gC)) :
  ∃w' G',(execOp ρ o).run P w=.ok .skip w'/\kA w G β st bx cO w' G' β bV gC r undef:=by
 unfold aV at ha;simp only at ha;split at ha;rename_i id k0 v0 heq;cases heq;split at ha;rename_i es iu;split at ha;rename_i lp;simp only[Bool.and_eq_true]at lp;split at ha;rename_i vC NY;cases ha;have hkn:ak.cC=true:=by
  have:=lp.1;unfold Fy at this;split at this<;>first|rfl|cases this
 obtain⟨loc,hl,T7⟩:=hI.loc iu;obtain⟨g1,g2,b,fs,clock,g3,g4,g5,g6,g7⟩:=T7;have hmv:ρ m=.map (some b):=by
  generalize ρ m=mv at hm;cases hm with
  |map _ loc' bk sJ E2 oE=>rw[hl]at sJ;cases sJ;rw[oE]at g3;cases g3;rfl
 have gQ:loc.jF=some b:=by unfold mC.jF;rw[if_neg (by omega),g3];rfl
 have hM:yF w G es fs.toList:=⟨by simpa using g6,λi a v e e1 e2=>g7 i a v e e1 (by simpa using e2)⟩;have Uf:(getObj b).run P w=.ok (.map fs clock) w:=by simp[getObj,Sem.run,g4]
 have TN:=run_checkKey (w:=w) ht false 9999 (ρ k);have lG:∀(fs':Array MapEntry) (G9:Nat),yF w G vC fs'.toList->
   kA w G β st bx cO { w with heap:=w.heap.setIfInBounds b (.map fs' G9) } ⟨(G.at id loc).ls,λb'=>if b'=b then some 0 else G.mM b'⟩ β (st.set id (.map vC)) bx .none undef:=by
  intro fs' G9 hM';have aW:b<w.heap.size:=(Array.getElem?_eq_some_iff.1 g4).1;have hW:Wr w G { w with heap:=w.heap.setIfInBounds b (.map fs' G9) } ⟨(G.at id loc).ls,λb'=>if b'=b then some 0 else G.mM b'⟩ b:=
   ⟨by simp,λb' oE=>by simp only[Array.getElem?_setIfInBounds];rw[if_neg λe=>oE e.symm],λb' oE=>by simp[oE],⟨0,0,g5,by simp,Nat.le_refl _,λo ho=>by omega⟩,GZ hl (Nat.le_refl _) λ_=>rfl⟩
  refine w7 hI hB hX hl iu hW.jK rfl ⟨g1,g2,b,fs',G9,g3,?_,by simp,by simpa using hM'.1,λi a v e e1 e2=>?_⟩ (hW.nO hI) (λb' _ oE=>hW.kY λe=>oE (by rw[gQ,e])) (by simp) rfl rfl trivial λb'=>by simp only[cL,je];omega
  simp only[Array.getElem?_setIfInBounds];rw[if_pos trivial,if_pos aW];obtain⟨h1,h2,h3,h4⟩:=hM'.2 i a v e e1 (by simpa using e2);exact⟨h1.jK hW.jK λb hb=>by rw[fz b a _ h4]at hb;omega,h2.jK hW.jK λb hb=>by rw[fz b v _ h3]at hb;omega,h3,h4⟩
 have head:∀(w':World),(Instr.mapUpdate t (.map (some b)) (ρ k) (ρ x)).run P w=.ok () w'->(execOp ρ o).run P w=.ok .skip w':=by
  intro w' h;rcases ho with ho|ho<;>simp only[execOp,ho,hmv,Sem.run_bind,h,Result.andThen_ok,Sem.run_pure]
 rcases Dj ht hk hv.view hkn (tY av) es vC fs.toList hM NY with⟨i,e,u,f1,f2,f3,f4,⟨a,f5,f6⟩,f7⟩|⟨f1,f2⟩;obtain⟨q,e1,e2⟩:=run_findKey ht hk hM f1 w;obtain⟨val,rfl⟩:=f3 q e1;have Io:fs[i]?=some e:=by simpa using f2
 refine⟨_,_,head _ ?_,lG (fs.modify i λe=>{ e with key:=ρ k,val:=ρ x }) clock ?_⟩;rw[f5]at f4;have hsb:=IS f4 hk f6 10000;simp only[Instr.mapUpdate,Sem.run_bind,run_underlying hu,Result.andThen_ok,Uf,TN,e1,Io,Option.map_some,Option.getD_some,Instr.keyThatStays,hsb,if_true,Sem.run_pure,Di g4];have:(fs.modify i λe=>{ e with key:=ρ k,val:=ρ x }).toList=fs.toList.set i { e with key:=ρ k,val:=ρ x }:=by
  rw[Array.toList_modify];apply List.ext_getElem?;intro j;rw[List.getElem?_modify,List.getElem?_set];by_cases Cb:i=j;subst Cb;simp[(Array.getElem?_eq_some_iff.1 Io).1,(Array.getElem?_eq_some_iff.1 Io).2];simp[Cb]
 rw[this];exact f7;obtain⟨q,e1,e2⟩:=run_findKey ht hk hM f1 w;simp only at e2;subst e2;refine⟨_,_,head _ ?_,lG (fs.push { key:=ρ k,val:=ρ x,born:=clock }) (clock+1) (by rw[Array.toList_push];exact f2 clock)⟩;simp only[Instr.mapUpdate,Sem.run_bind,run_underlying hu,Result.andThen_ok,Uf,TN,e1,Di g4];cases ha;cases ha;cases ha;cases ha
end Ax
namespace Ax
open Go
variable {P:Program}{w w':World}{G G':bp}{β gZ:List m9}{ρ:Operand->Value}{o:Oper}
structure Ip (w:World)(G:bp)(st:aj)(G':bp)(bV:aj):Prop where
 jK:sH w G w G'
 inv:jQ w G' bV
 gu:∀b,cz b G'.ls bV<=cz b G.ls st
 vK:∀b,cz b G.ls st=0->G'.mM b=G.mM b
theorem Ip.refl{st:aj}(hI:jQ w G st):Ip w G st G st:=⟨sH.refl w G,hI,λ_=>Nat.le_refl _,λ_ _=>rfl⟩
theorem Ip.trans{G1 G2:bp}{st kL kO:aj}(h:Ip w G st G1 kL)(k:Ip w G1 kL G2 kO):Ip w G st G2 kO:=
 ⟨h.jK.trans k.jK,k.inv,λb=>Nat.le_trans (k.gu b) (h.gu b),λb hb=>(k.vK b (by have:=h.gu b;omega)).trans (h.vK b hb)⟩
mutual
theorem vP:∀a:AV,a.ax=true->a.view.ax=true
 |.iO _ _,_=>by simp[AV.view,AV.ax]|.raw _ _,_=>by simp[AV.view,AV.ax]|.agg cs,h=>by simp only[AV.view,AV.ax]at *;exact pe cs h|.fm cs,h=>by simp only[AV.view,AV.ax]at *;exact pe cs h|.undef,h|.gone,h|.bool _,h|.int _ _,h|.str _,h|.fF,h|.U,h|.gn,h|.jc,h|.ke,h|.dL _ _,h|.mK,h|.mu _ _,h|.ptr _ _ _ _,h|.qd _ _ _ _,h|.map _,h|.fn _ _ _,h=>by simpa [AV.view] using h
theorem pe:∀cs:List AV,AV.ai cs=true->AV.ai (AV.cq cs)=true
 |[],_=>rfl|c::cs,h=>by
  simp only[AV.ai,Bool.and_eq_true]at h;simp only[AV.cq,AV.ai,vP c h.1,pe cs h.2,Bool.and_self]
end
theorem bC.AP{a:AV}{v:Value}(h:bC w G a v)(hs:sH w G w' G')(hn:a.cC=true):bC w' G' a v:=h.jK hs λb hb=>by rw[fz b a v hn]at hb;omega
def lq(sz cy:Nat):mC:=⟨some ⟨0,0,none⟩,0,0,sz,cy+1,false,[]⟩
theorem He(sz cy:Nat):qY w G (.rows (cy+1) sz []) (lq sz cy):=
 ⟨rfl,rfl,by simp[bN],by simp,rfl,rfl,rfl,λi r xs h=>by simp at h,.inl ⟨rfl,rfl,rfl⟩⟩
theorem FQ{st:aj}(hI:jQ w G st){id cy sz:Nat}{rows:List (List AV)}{loc:mC}(iu:st[id]?=some (.rows cy sz rows))(hl:G.ls[id]?=some loc)(E2:loc.mp=false)(Ca:loc.cy=cy) :
  Ip w G st (G.at id (lq sz cy)) (st.set id (.rows (cy+1) sz []))/\∀b,cz b (G.at id (lq sz cy)).ls (st.set id (.rows (cy+1) sz []))+je b loc (.rows cy sz rows)=cz b G.ls st:=by
 have hs:sH w G w (G.at id (lq sz cy)):=P2 hl (by simp only[lq];omega) λh=>by
  rcases h with h|h;simp only[lq]at h;omega;rw[E2]at h;cases h
 have hc:∀b,cz b (G.at id (lq sz cy)).ls (st.set id (.rows (cy+1) sz []))+je b loc (.rows cy sz rows)=cz b G.ls st:=λb=>by
  have:=vJ b G.ls st id loc _ (lq sz cy) (.rows (cy+1) sz []) hl iu;have h0:je b (lq sz cy) (.rows (cy+1) sz [])=0:=by simp[je,lq,mC.jF,iP]
  rw[h0]at this;exact this
 exact⟨⟨hs,Cx hI hs rfl (λ_ _ _ b _ _ _ _=>⟨rfl,rfl⟩) (He sz cy) hI.nO,λb=>by have:=hc b;omega,λ_ _=>rfl⟩,hc⟩
def bp.Ce(G:bp)(b:Nat):bp:=⟨G.ls,λb'=>if b'=b then none else G.mM b'⟩
theorem IT{st:aj}(hI:jQ w G st){b:Nat}(hb:G.mM b=some 0)(h0:cz b G.ls st=0):sH w G w (G.Ce b)/\jQ w (G.Ce b) st:=by
 have hs:sH w G w (G.Ce b):=⟨λb' o hi=>⟨rfl,hi.1,λp hp=>by
  simp only[bp.Ce]at hp;split at hp;cases hp;exact hi.2 p hp⟩,Df G⟩
 refine⟨hs,vN hI hs rfl (λb' oE=>⟨?_,rfl⟩) λb' p hp=>?_⟩;simp only[bp.Ce];rw[if_neg];intro e;subst e;omega;simp only[bp.Ce]at hp;split at hp;cases hp;exact hI.nO b' p hp
theorem IU{sz b off cap:Nat}{rows:List (List AV)}{vals:List (List Value)}(cJ:bN sz rows=true)(kB:∀r∈rows,AV.bq r=true)(jy:∀r∈rows,AV.eY r=true)(qI:∀r∈rows,AV.ai r=true)
  (hlen:vals.length=rows.length)(acM:∀(i:Nat) r xs,rows[i]?=some r->vals[i]?=some xs->cF w G r xs)(g8:rows.length<=cap)(hb:b<w.heap.size)(ht:G.mM b=none)
  (fA:∀(i:Nat) xs (j:Nat) x,vals[i]?=some xs->xs[j]?=some x->w.cell? ⟨b,off+(i*sz+j),none⟩=some x):bC w G (.dL sz rows) (.slice (some ⟨b,off,none⟩) rows.length cap):=by
 have key:∀(i:Nat) r (j:Nat) c,rows[i]?=some r->r[j]?=some c->∃v,w.cell? ⟨b,off+(i*sz+j),none⟩=some v/\bC w G c v:=by
  intro i r j c h1 h2;have hi:i<vals.length:=by rw[hlen];exact(List.getElem?_eq_some_iff.1 h1).1
  have hv:=List.getElem?_eq_getElem hi;obtain⟨e1,e2⟩:=acM i r _ h1 hv;have hj:j<vals[i].length:=by rw[<-e1];exact(List.getElem?_eq_some_iff.1 h2).1
  exact⟨_,fA i _ j _ hv (List.getElem?_eq_getElem hj),e2 j c _ h2 (List.getElem?_eq_getElem hj)⟩
 refine .dL sz rows ⟨b,off,none⟩ cap rfl g8 cJ jy qI kB (λi r j c h1 h2=>⟨⟨hb,λp hp=>by simp only at hp;rw[ht]at hp;cases hp⟩,?_⟩) λi r j c v h1 h2 h3=>?_;obtain⟨v,h,_⟩:=key i r j c h1 h2;exact⟨v,h⟩;obtain⟨v',h,h'⟩:=key i r j c h1 h2;rw[h]at h3;cases h3;exact h'
theorem KO{wl:Nat}{st bV:aj}{a a':AV}{v:Value}(hI:jQ w G st)(hX:∀b,cz b G.ls st<=1)(h:bC w G a v)(hf:me wl a st=some (a',bV)) :
  ∃G',Ip w G st G' bV/\bC w G' a' v/\a'.cC=true/\a'.ax=true/\a'.cx=true:=by
 unfold me at hf;split at hf
 ·rename_i id cy;split at hf
  ·rename_i v0 sz rows iu;split at hf
   ·rename_i hc;simp only[Bool.and_eq_true,decide_eq_true_eq,Bool.not_eq_true',List.all_eq_true]at hc;obtain⟨⟨⟨rfl,qI⟩,jn⟩,_⟩:=hc;cases hf;obtain⟨loc,hl,E2,Ca,jv⟩:=hI.loc iu;cases h with
    |mu _ _ _ loc' hp sJ FC he=>
    rw[hl]at sJ;cases sJ;have cY:=he (by omega);subst cY;rcases jv.sK with⟨_,sM,_⟩|⟨b,off,c,e',AL,g8,iC,dF,hlen,jz,fA⟩;subst sM;simp at jn;obtain⟨f1,f2⟩:=FQ hI iu hl E2 Ca;have gQ:loc.jF=some b:=(by unfold mC.jF;rw[if_neg (by omega),AL];rfl);have h0:cz b (G.at id (lq sz v0)).ls (st.set id (.rows (v0+1) sz []))=0:=by
     have h1:=f2 b;have h2:=hX b;simp only[je,gQ,if_true]at h1;omega
    obtain⟨g1,g2⟩:=IT f1.inv (b:=b) (by exact jz) h0;refine⟨(G.at id (lq sz v0)).Ce b,⟨f1.jK.trans g1,g2,f1.gu,λb' oE=>?_⟩,?_,by simp[AV.cC],by simp[AV.ax],by simp[AV.cx]⟩;simp only[bp.Ce,bp.at];rw[if_neg];intro e;subst e;have h1:=f2 b';simp only[je,gQ,if_true]at h1;omega;rw[AL,jv.len,show rows.length=(rows.map AV.cq).length by simp];refine IU (vals:=loc.vals) (dg.2 λr hr=>?_) (λr hr=>?_) (λr hr=>?_) (λr hr=>?_) (by simpa using jv.tj) (λi r xs h1 h2=>?_) (by simpa using hlen) (Array.getElem?_eq_some_iff.1 iC).1 (by simp[bp.Ce]) fA;obtain⟨r',xS,rfl⟩:=List.mem_map.1 hr;rw[nM];exact dg.1 jv.FE r' xS;obtain⟨r',xS,rfl⟩:=List.mem_map.1 hr;rw[rm];exact jv.E1 r' xS;obtain⟨r',xS,rfl⟩:=List.mem_map.1 hr;exact gD r';obtain⟨r',xS,rfl⟩:=List.mem_map.1 hr;exact pe r' (qI r' xS);simp only[List.getElem?_map,Option.map_eq_some_iff]at h1;obtain⟨r',h1,rfl⟩:=h1;refine(jv.tZ i r' xs h1 h2).view.mono (f1.jK.trans g1) λb' oE=>?_;rw[eE b' _ _ (gD r')]at oE;omega
   cases hf
  cases hf
 split at hf;rename_i hc;simp only[Bool.and_eq_true]at hc;cases hf;exact⟨G,Ip.refl hI,h.view,tY a,vP a hc.1,by rw[Bx];exact hc.2⟩;cases hf
theorem Dk{wl:Nat}:∀{l l':List AV}{xs:List Value}{G:bp}{st bV:aj},jQ w G st->(∀b,cu b l xs+cz b G.ls st<=1)->cF w G l xs->kq wl l st=some (l',bV)->
  ∃G',Ip w G st G' bV/\cF w G' l' xs/\AV.eY l'=true/\AV.ai l'=true/\AV.bq l'=true
 |[],l',xs,G,st,bV,hI,hX,h,hf=>by
  simp only[kq,Option.some.injEq,Prod.mk.injEq]at hf;obtain⟨rfl,rfl⟩:=hf;exact⟨G,Ip.refl hI,h,rfl,rfl,rfl⟩
 |a::l,l',xs,G,st,bV,hI,hX,h,hf=>by
  simp only[kq]at hf;split at hf
  ·rename_i a1 kL h1;split at hf
   ·rename_i l2 kO h2;cases hf;cases xs with
    |nil=>have:=h.1;simp at this|cons x xs=>
    obtain⟨G1,f1,f2,f3,f4,f5⟩:=KO hI (λb=>by have:=hX b;omega) (h.2 0 a x rfl rfl) h1;have Qg:cF w G l xs:=⟨by simpa using h.1,λi c v e1 e2=>h.2 (i+1) c v (by simpa using e1) (by simpa using e2)⟩;have hX1:∀b,cu b l xs+cz b G1.ls kL<=1:=λb=>by
     have e1:=hX b;have e2:=f1.gu b;simp only[cu]at e1;omega
    obtain⟨G2,g1,g2,g3,g4,g5⟩:=Dk f1.inv hX1 (Qg.mono f1.jK λb hb=>⟨f1.vK b (by have:=hX b;simp only[cu]at this;omega),rfl⟩) h2;refine⟨G2,f1.trans g1,⟨by simp[g2.1],λi c v e1 e2=>?_⟩,by simp[AV.eY,f3,g3],by simp[AV.ai,f4,g4],?_⟩;cases i with
    |zero=>simp at e1 e2;subst e1;subst e2;exact f2.AP g1.jK f3|succ i=>exact g2.2 i c v (by simpa using e1) (by simpa using e2)
    simp only[AV.bq,List.all_cons,Bool.and_eq_true]at g5 ⊢;exact⟨f5,g5⟩
   cases hf
  cases hf
theorem vQ{wl:Nat}:∀{l l':List AV}{st bV:aj},kq wl l st=some (l',bV)->l'.length=l.length
 |[],l',st,bV,hf=>by simp only[kq,Option.some.injEq,Prod.mk.injEq]at hf;obtain⟨rfl,_⟩:=hf;rfl|a::l,l',st,bV,hf=>by
  simp only[kq]at hf;split at hf;split at hf;rename_i h2;cases hf;simp[vQ h2];cases hf;cases hf
theorem BA{wl:Nat}:∀{l l':List (List AV)}{xs:List (List Value)}{G:bp}{st bV:aj},jQ w G st->(∀b,iP b l xs+cz b G.ls st<=1)->l.length=xs.length->(∀(i:Nat) r x,l[i]?=some r->xs[i]?=some x->cF w G r x)->kN wl l st=some (l',bV)->
  ∃G',Ip w G st G' bV/\l'.length=l.length/\(∀(i:Nat) r x,l'[i]?=some r->xs[i]?=some x->cF w G' r x)/\(∀(i:Nat) r r',l[i]?=some r->l'[i]?=some r'->r'.length=r.length)/\(∀r∈l',AV.eY r=true)/\(∀r∈l',AV.ai r=true)/\(∀r∈l',AV.bq r=true)
 |[],l',xs,G,st,bV,hI,hX,hl,h,hf=>by
  simp only[kN,Option.some.injEq,Prod.mk.injEq]at hf;obtain⟨rfl,rfl⟩:=hf;exact⟨G,Ip.refl hI,rfl,h,λi r r' e=>by simp at e,by simp,by simp,by simp⟩
 |a::l,l',xs,G,st,bV,hI,hX,hl,h,hf=>by
  simp only[kN]at hf;split at hf
  ·rename_i a1 kL h1;split at hf
   ·rename_i l2 kO h2;cases hf;cases xs with
    |nil=>simp at hl|cons x xs=>
    obtain⟨G1,f1,f2,f3,f4,f5⟩:=Dk hI (λb=>by have:=hX b;simp only[iP]at this;omega) (h 0 a x rfl rfl) h1;have hX1:∀b,iP b l xs+cz b G1.ls kL<=1:=λb=>by
     have e1:=hX b;have e2:=f1.gu b;simp only[iP]at e1;omega
    obtain⟨G2,g1,g2,g3,g4,g5,g6,g7⟩:=BA f1.inv hX1 (by simpa using hl) (λi r y e1 e2=>(h (i+1) r y (by simpa using e1) (by simpa using e2)).mono f1.jK λb hb=>⟨f1.vK b (by
     have e3:=hX b;have e4:=w6 b l xs i r y e1 e2;simp only[iP]at e3;omega),rfl⟩) h2
    refine⟨G2,f1.trans g1,by simp[g2],λi r y e1 e2=>?_,λi r r' e1 e2=>?_,λr hr=>?_,λr hr=>?_,λr hr=>?_⟩;cases i with
    |zero=>simp at e1 e2;subst e1;subst e2;exact f2.mono g1.jK λb hb=>by rw[eE b _ _ f3]at hb;omega|succ i=>exact g3 i r y (by simpa using e1) (by simpa using e2)
    cases i with
    |zero=>simp at e1 e2;subst e1;subst e2;exact vQ h1|succ i=>exact g4 i r r' (by simpa using e1) (by simpa using e2)
    rcases List.mem_cons.1 hr with rfl|hr;exact f3;exact g5 r hr;rcases List.mem_cons.1 hr with rfl|hr;exact f4;exact g6 r hr;rcases List.mem_cons.1 hr with rfl|hr;exact f5;exact g7 r hr
   cases hf
  cases hf
theorem yI{wl:Nat}{st bV:aj}{a a':AV}{v:Value}(hI:jQ w G st)(hX:∀b,cz b G.ls st<=1)(h:bC w G a v)(hf:jm wl a st=some (a',bV)) :
  ∃G',Ip w G st G' bV/\bC w G' a' v/\a'.cC=true:=by
 unfold jm at hf;split at hf
 ·rename_i id cy;split at hf
  ·rename_i v0 sz rows iu;split at hf
   ·rename_i hc;simp only[Bool.and_eq_true,decide_eq_true_eq,Bool.not_eq_true']at hc;obtain⟨⟨rfl,jn⟩,_⟩:=hc;split at hf
    ·rename_i eS kL KK;cases hf;obtain⟨loc,hl,E2,Ca,jv⟩:=hI.loc iu;cases h with
     |mu _ _ _ loc' hp sJ FC he=>
     rw[hl]at sJ;cases sJ;have cY:=he (by omega);subst cY;rcases jv.sK with⟨_,sM,_⟩|⟨b,off,c,e',AL,g8,iC,dF,hlen,jz,fA⟩;subst sM;simp at jn;obtain⟨f1,f2⟩:=FQ hI iu hl E2 Ca;have gQ:loc.jF=some b:=(by unfold mC.jF;rw[if_neg (by omega),AL];rfl);have hX1:∀b',iP b' rows loc.vals+cz b' (G.at id (lq sz v0)).ls (st.set id (.rows (v0+1) sz []))<=1:=λb'=>by
      have h1:=f2 b';have h2:=hX b';simp only[je]at h1;omega
     obtain⟨G2,g1,g2,g3,g4,g5,g6,g7⟩:=BA f1.inv hX1 jv.tj.symm (λi r y e1 e2=>(jv.tZ i r y e1 e2).mono f1.jK λb _=>⟨rfl,rfl⟩) KK;have h0:cz b (G.at id (lq sz v0)).ls (st.set id (.rows (v0+1) sz []))=0:=by
      have h1:=f2 b;have h2:=hX b;simp only[je,gQ,if_true]at h1;omega
     have Yn:G2.mM b=some 0:=(g1.vK b h0).trans jz;obtain⟨k1,k2⟩:=IT g1.inv Yn (by have:=g1.gu b;omega);refine⟨G2.Ce b,⟨(f1.jK.trans g1.jK).trans k1,k2,λb'=>Nat.le_trans (g1.gu b') (f1.gu b'),λb' oE=>?_⟩,?_,by simp[AV.cC]⟩;have hbb:b'≠b:=by
      intro e;subst e;have h1:=f2 b';simp only[je,gQ,if_true]at h1;omega
     simp only[bp.Ce];rw[if_neg hbb];exact g1.vK b' (by have:=f1.gu b';omega);rw[AL,jv.len,<-g2];refine IU (vals:=loc.vals) (dg.2 λr hr=>?_) g7 g5 g6 (by rw[jv.tj,g2]) (λi r xs h1 h2=>(g3 i r xs h1 h2).mono k1 λb' oE=>by rw[eE b' _ _ (g5 r (dm h1))]at oE;omega) (by rw[g2];exact hlen) (Array.getElem?_eq_some_iff.1 iC).1 (by simp[bp.Ce]) fA;obtain⟨i,hi,rfl⟩:=List.mem_iff_getElem.1 hr;have rV:i<rows.length:=(by rw[<-g2];exact hi);rw[g4 i rows[i] eS[i] (List.getElem?_eq_getElem rV) (List.getElem?_eq_getElem hi)];exact dg.1 jv.FE _ (List.getElem_mem rV)
    cases hf
   cases hf
  cases hf
 cases hf;cases h;exact⟨G,Ip.refl hI,.U,rfl⟩;cases hf
end Ax
namespace Ax
open Go
variable {P:Program}{w w':World}{G G':bp}{β gZ:List m9}{ρ:Operand->Value}{o:Oper}
end Ax
namespace Ax
open Go
variable {P:Program}{w w':World}{G G':bp}{β gZ:List m9}{ρ:Operand->Value}{o:Oper}
theorem NZ{α:Type}(r:List α)(k:Nat)(v:α)(h:k<r.length):ag r k [v]=r.set k v:=by
 rw[jU _ _ _ (by simp;omega)];rw[List.set_eq_take_append_cons_drop,if_pos h];simp
theorem IV(b:Nat):∀(r:List AV)(xs:List Value)(k:Nat)(v v':AV)(x:Value),r[k]?=some v->xs[k]?=some x->cu b (r.set k v') xs+gu b v x=cu b r xs+gu b v' x
 |[],_,_,_,_,_,h,_=>by simp at h|_::_,[],_,_,_,_,_,h=>by simp at h|r::rs,x::xs,0,v,v',x',h,k=>by simp at h k;subst h;subst k;simp only[List.set_cons_zero,cu];omega|r::rs,x::xs,i+1,v,v',x',h,k=>by
  have:=IV b rs xs i v v' x' (by simpa using h) (by simpa using k);simp only[List.set_cons_succ,cu];omega
theorem IW(G:bp)(ls:List mC):sH w G w ⟨G.ls++ls,G.mM⟩ where
 PM:=λ_ _ h=>⟨rfl,h⟩
 Mj:=λid loc hl=>⟨loc,by
  rw[List.getElem?_append_left (List.getElem?_eq_some_iff.1 hl).1];exact hl,Nat.le_refl _,λ_=>rfl⟩
theorem Uo{st:aj}{loc:mC}{ob:dy}(hI:jQ w G st)(h:qY w ⟨G.ls++[loc],G.mM⟩ ob loc):jQ w ⟨G.ls++[loc],G.mM⟩ (st++[ob]) where
 len:=by simp[hI.len]
 nO:=hI.nO
 aT:=λid Im l h1 h2=>by
  simp only at h2;by_cases Kl:id<st.length;rw[List.getElem?_append_left Kl]at h1;rw[List.getElem?_append_left (by rw[hI.len];exact Kl)]at h2;exact(hI.aT id Im l h1 h2).jK (IW G _) λb _=>⟨rfl,rfl⟩;rw[List.getElem?_append_right (by omega)]at h1;rw[List.getElem?_append_right (by rw[hI.len];omega),hI.len]at h2;by_cases he:id-st.length=0;rw[he]at h1 h2;simp at h1 h2;subst h1;subst h2;exact h;obtain⟨n,hn⟩:∃n,id-st.length=n+1:=⟨id-st.length-1,by omega⟩;rw[hn]at h1;simp at h1
def ug(w:World)(a:Addr)(sz:Nat)(rows:List (List AV)):List (List Value):=
 rows.mapIdx λi r=>r.mapIdx λj _=>(w.cell? ⟨a.block,a.off+(i*sz+j),none⟩).getD Go.undef
theorem Up{st:aj}{id ve i k k2 sz lF:Nat}{rows eS:List (List AV)}{r:List AV}{u:Value}(hI:jQ w G st)(hp:bC w G (.ptr id ve i k) u)
  (iu:st[id]?=some (.rows ve sz rows))(cZ:rows[i]?=some r)(hv:r[k2]?=some (.raw lF eS)) :
  ∃G',Ip w G st G' ((st++[dy.rows 0 lF eS]).set id (.rows ve sz (rows.set i (ag r k2 [.mu st.length 0])))):=by
 obtain⟨loc,b,o,c,e,xs,hl,E2,Ca,jv,G6,AL,g8,gQ,iC,hle,hlen,jz,KL,mF,fA⟩:=zu hI hp iu cZ;have Kz:k2<r.length:=(List.getElem?_eq_some_iff.1 hv).1;obtain⟨x,hx⟩:∃x,xs[k2]?=some x:=⟨_,List.getElem?_eq_getElem (by rw[<-mF.1];exact Kz)⟩;have fR:=mF.2 _ _ _ hv hx;cases fR with
 |raw _ _ a cap nE W7 cJ jy qI wU hc hr ht hb=>
 obtain⟨cc,ce,Cf,Hf⟩:=hb;have key:∀(i:Nat) r (j:Nat) c,eS[i]?=some r->r[j]?=some c->∃v,(ug w a lF eS)[i]?.bind (·[j]?)=some v/\w.cell? ⟨a.block,a.off+(i*lF+j),none⟩=some v:=by
  intro i r j c h1 h2;obtain⟨v,hv⟩:=hc i r j c h1 h2;exact⟨v,by simp[ug,h1,h2,hv],hv⟩
 have Mm:∀(i:Nat) xs (j:Nat) x,(ug w a lF eS)[i]?=some xs->xs[j]?=some x->w.cell? ⟨a.block,a.off+(i*lF+j),none⟩=some x:=by
  intro i xs j x h1 h2;simp only[ug,List.getElem?_mapIdx,Option.map_eq_some_iff]at h1;obtain⟨r,h3,rfl⟩:=h1;simp only[List.getElem?_mapIdx,Option.map_eq_some_iff]at h2;obtain⟨c,h4,rfl⟩:=h2;obtain⟨v,hv⟩:=hc i r j c h3 h4;rw[hv];rfl
 have acO:(some a:Option Addr)=some ⟨a.block,a.off,none⟩:=by rw[<-nE]
 let loc':mC:=⟨some a,cap,eS.length,lF,0,false,ug w a lF eS⟩
 let G':bp:=⟨G.ls++[loc'],G.mM⟩
 have Uq:sH w G w G':=IW G _;have hO:qY w G' (.rows 0 lF eS) loc':=by
  refine⟨rfl,rfl,cJ,wU,rfl,rfl,by simp[loc',ug],λi r xs h1 h2=>⟨?_,λj c v h3 h4=>?_⟩,?_⟩;simp only[loc',ug,List.getElem?_mapIdx,h1,Option.map_some,Option.some.injEq]at h2;subst h2;simp;have h5:=Mm i xs j v h2 h4;exact(hr i r j c v h1 h3 h5).AP Uq ((de r).1 (jy r (dm h1)) c (dm h3));rcases Nat.eq_zero_or_pos cap with h0|h0;refine .inl ⟨h0,?_,rfl⟩;cases eS with
  |nil=>rfl|cons _ _=>simp at W7;omega
  exact .inr ⟨a.block,a.off,cc,ce,acO,h0,Cf,Hf,W7,ht,Mm⟩
 have hI1:jQ w G' (st++[dy.rows 0 lF eS]):=Uo hI hO;have Kl:id<st.length:=(List.getElem?_eq_some_iff.1 iu).1;have Fg:(st++[dy.rows 0 lF eS])[id]?=some (.rows ve sz rows):=by rw[List.getElem?_append_left Kl];exact iu
 have Ur:G'.ls[id]?=some loc:=by
  show (G.ls++[loc'])[id]?=_;rw[List.getElem?_append_left (by rw[hI.len];exact Kl)];exact hl
 have hmu:bC w G' (.mu st.length 0) (.slice (some a) eS.length cap):=by
  refine .mu _ _ _ loc' ⟨_,_,_,rfl⟩ ?_ (Nat.le_refl _) λ_=>rfl;show (G.ls++[loc'])[st.length]?=_;rw[List.getElem?_append_right (by rw[hI.len];exact Nat.le_refl _),hI.len];simp
 have vR:ag r k2 [AV.mu st.length 0]=r.set k2 (.mu st.length 0):=NZ r k2 _ Kz;have Qh:cF w G' r xs:=⟨mF.1,λj c v h1 h2=>(mF.2 j c v h1 h2).jK Uq λ_ _=>⟨rfl,rfl⟩⟩;have vg:qY w G' (.rows ve sz (rows.set i (ag r k2 [.mu st.length 0]))) loc:=by
  rw[vR];refine⟨E2,Ca,dg.2 λr' xS=>?_,λr' xS=>?_,by simp[jv.len],jv.size,by simp[jv.tj],λi' r' Ko h1 h2=>?_,.inr ⟨b,o,c,e,AL,g8,iC,hle,by simpa using hlen,jz,fA⟩⟩;rcases List.mem_or_eq_of_mem_set xS with h|h;exact dg.1 jv.FE r' h;rw[h,List.length_set];exact dg.1 jv.FE r (dm cZ);rcases List.mem_or_eq_of_mem_set xS with h|h;exact jv.E1 r' h;rw[h,<-vR];exact jV (jv.E1 r (dm cZ)) (by simp[AV.bq,AV.cx]) (by simp;omega);rw[List.getElem?_set]at h1;by_cases KM:i=i';subst KM;rw[if_pos rfl]at h1;split at h1;cases h1;rw[KL]at h2;cases h2;refine⟨by rw[List.length_set];exact mF.1,λj c v h3 h4=>?_⟩;rw[List.getElem?_set]at h3;by_cases Yo:k2=j;subst Yo;rw[if_pos rfl,if_pos Kz]at h3;cases h3;rw[hx]at h4;cases h4;exact hmu;rw[if_neg Yo]at h3;exact Qh.2 j c v h3 h4;cases h1;rw[if_neg KM]at h1;have h3:=jv.tZ i' r' Ko h1 h2;exact⟨h3.1,λj c v h4 h5=>(h3.2 j c v h4 h5).jK Uq λ_ _=>⟨rfl,rfl⟩⟩
 refine⟨G',Uq,Cx hI1 (sH.refl w G') (gb _ _ _ Ur).symm (λ_ _ _ _ _ _ _ _=>⟨rfl,rfl⟩) vg hI1.nO,λb'=>?_,λ_ _=>rfl⟩;have h1:=vJ b' G'.ls (st++[dy.rows 0 lF eS]) id loc _ loc (.rows ve sz (rows.set i (ag r k2 [.mu st.length 0]))) Ur Fg;rw[gb _ _ _ Ur]at h1;have h4:=tn b' rows loc.vals i r xs (ag r k2 [.mu st.length 0]) xs cZ KL;rw[gb _ _ _ KL]at h4;have h5:=IV b' r xs k2 _ (.mu st.length 0) _ hv hx;rw[<-vR]at h5;have h6:cz b' G'.ls (st++[dy.rows 0 lF eS])=cz b' G.ls st+cz b' [loc'] [dy.rows 0 lF eS]:=sx b' _ _ _ _ hI.len;have h7:cz b' [loc'] [dy.rows 0 lF eS]<=gu b' (.raw lF eS) (.slice (some a) eS.length cap):=by
  simp only[cz,je,gu,Bv b' eS _ jy,loc',mC.jF,Nat.add_zero];by_cases yH:cap=0;simp[yH];simp[yH]
 have h8:gu b' (.mu st.length 0) (.slice (some a) eS.length cap)=0:=by simp[gu]
 simp only[je]at h1;omega
end Ax
namespace Ax
open Go
variable {P:Program}{w w':World}{G G':bp}{β gZ:List m9}{ρ:Operand->Value}{o:Oper}
def j8(P:Program)(ρ:Operand->Value)(o:Oper)(w:World)(G:bp)(β:List m9)(st:aj)(bx:bF)(cO:Nat->Nat)(nb:Option Nat)(r:fq)(bV:aj)(gC:bF):Prop:=
 ∃n v w' G' gZ,(execOp ρ o).run P w=.ok n w'/\(n=.value v\/n=.skip/\v=undef)/\kA w G β st bx cO w' G' gZ bV gC r v/\gp nb β gZ
theorem j8.nR{st:aj}{bx:bF}{cO:Nat->Nat}{nb:Option Nat}{r:fq}(hI:jQ w G st)(hB:lH w G β bx){u:Value}(h:(execOp ρ o).run P w=.ok (.value u) w)(hr:kP w G β r u)(hc:∀b,cL b r u<=cO b):j8 P ρ o w G β st bx cO nb r st bx:=
 ⟨_,u,w,G,β,h,.inl rfl,kA.nR hI hB hr hc,gp.refl _ _⟩
theorem j8.cC{st:aj}{bx:bF}{cO:Nat->Nat}{nb:Option Nat}{a:AV}(hI:jQ w G st)(hB:lH w G β bx){u:Value}(h:(execOp ρ o).run P w=.ok (.value u) w)(hr:bC w G a u)(hn:a.cC=true):j8 P ρ o w G β st bx cO nb (.val a) st bx:=
 j8.nR hI hB h hr λb=>by simp only[cL,fz b a u hn];omega
theorem lg.N6{vals:List fq}{xs:List Value}{vs:List AV}(h:lg w G β vals xs)(hv:jt vals=some vs):cF w G vs xs/\∀b,mD b vals xs=cu b vs xs:=by
 obtain⟨e1,e2,e3⟩:=h.vals hv;exact⟨⟨e2,e3⟩,λb=>by rw[e1,C1]⟩
theorem zv{rows:List (List AV)}(h:rows.all AV.bq=true):∀r∈rows,AV.bq r=true:=by simpa using h
theorem IX{rows:List (List AV)}(h:rows.all AV.ai=true):∀r∈rows,AV.ai r=true:=by simpa using h
theorem zw{sz:Nat}{p:AV->Prop}:∀(qs:List Nat)(vs:List AV)(rows eS:List (List AV)),(∀r∈rows,∀c∈r,p c)->(∀v∈vs,∀c∈v.cells,p c)->gv sz rows qs vs=some eS->∀r∈eS,∀c∈r,p c
 |[],[],rows,eS,hr,_,h=>by simp[gv]at h;subst h;exact hr|[],_::_,_,_,_,_,h=>by simp[gv]at h|_::_,[],_,_,_,_,h=>by simp[gv]at h|i::qs,v::vs,rows,eS,hr,hv,h=>by
  simp only[gv]at h;split at h;refine zw qs vs _ eS (λr hm=>?_) (λu hu=>hv u (by simp[hu])) h;rcases List.mem_or_eq_of_mem_set hm with h1|h1;exact hr r h1;rw[h1];exact hv v (by simp);cases h
theorem IY{v:AV}(h:v.cC=true):∀c∈v.cells,c.cC=true:=by
 cases v<;>simp_all [AV.cells,AV.cC];exact(de _).1 h
theorem IZ(vs:List AV):∀v∈AV.cq vs,v.cC=true:=(de _).1 (gD vs)
theorem Dl{x:Option Operand}{d a:Int}{vals rest:List fq}{xs:List Value}(h:se x.isSome d vals=some (a,rest))(hR:lg w G β vals (x.toList.map ρ++xs)):yE ρ x d a/\lg w G β rest xs:=by
 unfold se at h;cases x with
 |none=>simp at h;obtain⟨rfl,rfl⟩:=h;exact⟨.inl ⟨rfl,rfl⟩,by simpa using hR⟩|some y=>
  simp only[Option.isSome_some,if_true]at h;split at h;rename_i n r;cases h;simp only[Option.toList_some,List.map_cons,List.map_nil,List.cons_append,List.nil_append,lg,kP]at hR;exact⟨.inr ⟨y,rfl,hR.1.jP⟩,hR.2⟩;cases h
theorem FR{c:Call}{t u:TypeId}(h2:c.argTypes.size=2)(h0:c.argTypes[0]?=some t)(h1:c.argTypes[1]?=some u):c.argTypes = #[t,u]:=by
 apply Array.ext_getElem?;intro i;match i with
 |0=>simpa using h0|1=>simpa using h1|i+2=>simp;omega
section
variable {S:Nat->Option aH}{so:aK}{vals:List fq}{wl af:Nat}{st bV:aj}{bx gC:bF}{cO:Nat->Nat}{r:fq}
theorem Us{t:TypeId}{x:Operand}{lo hi mx:Option Operand}{wT:Bool}{sz:Nat}(ho:o.op=.slice t x lo hi mx)(Yp:mx.isSome=true->hi.isSome=true)
  (hu:match P.underlying t with|some (.slice e)=>(!wT&&dz P e sz)=true|some .string=>(wT && !mx.isSome)=true|_=>False)(hI:jQ w G st)(hB:lH w G β bx)
  (hR:lg w G β vals ((wZ x lo hi mx).map ρ)) (hcO:∀b,mD b vals ((wZ x lo hi mx).map ρ)<=cO b) (ha:aV wl af (.slice wT lo.isSome hi.isSome mx.isSome sz) vals st bx=some (r,bV,gC)) :
  j8 P ρ o w G β st bx cO none r bV gC:=by
 simp only[wZ,List.map_cons,List.map_append]at hR;unfold aV at ha;simp only at ha;split at ha;rename_i a l;obtain⟨TR,Ut⟩:=hR;simp only[kP]at TR;split at ha;cases ha;rename_i n hn;split at ha;cases ha;rename_i lov l1 vr;obtain⟨Hh,hR1⟩:=Dl vr (xs:=hi.toList.map ρ++mx.toList.map ρ) (by simpa [List.append_assoc] using Ut);split at ha;cases ha;rename_i hiv l2 hhi;obtain⟨Hi,hR2⟩:=Dl hhi hR1;split at ha;rename_i hmx;have agZ:mx=none:=by cases mx<;>simp_all
 subst agZ;split at ha;rename_i v hv;cases ha;unfold ko at hv;split at hv;rename_i s;split at hv;rename_i hc;simp only[Bool.and_eq_true,decide_eq_true_eq]at hc;obtain⟨⟨⟨_,h0⟩,h1⟩,h2⟩:=hc;cases hv;simp only[if_true,ov,Option.some.injEq]at hn;subst hn;have hus:P.underlying t=some .string:=by
  split at hu;simp at hu
  assumption
  exact hu.elim
 obtain⟨u,e1,e2⟩:=KF ho hus TR Hh Hi h0 h1 h2;exact j8.cC hI hB e1 e2 rfl;cases hv;simp only[Bool.and_true]at hv;split at hv;rename_i hc;simp only[Bool.and_eq_true,decide_eq_true_eq]at hc;obtain⟨rfl,rfl⟩:=hc;cases hv;simp only[ov,fJ]at hn;cases hn;split at hu;rename_i e Hj;simp only[Bool.and_eq_true]at hu;exact j8.cC hI hB (C9 ho Hj hu.2 TR Hh Hi (.inl rfl)) .U rfl;simp at hu;exact hu.elim;cases hv;simp only[Bool.and_true]at hv;split at hv;rename_i hc;simp only[Bool.and_eq_true,decide_eq_true_eq]at hc;obtain⟨rfl,rfl⟩:=hc;cases hv;simp only[ov,fJ]at hn;cases hn;split at hu;rename_i e Hj;simp only[Bool.and_eq_true]at hu;obtain⟨u,e1,e2⟩:=Bu ho Hj hu.2 TR Hh Hi (.inl rfl);exact j8.cC hI hB e1 e2 rfl;simp at hu;exact hu.elim;cases hv;rename_i s rows;simp only at hv;split at hv;rename_i hc;simp only[Bool.and_eq_true,decide_eq_true_eq]at hc;obtain⟨⟨⟨rfl,h0⟩,h1⟩,h2⟩:=hc;cases hv;simp only[ov,fJ]at hn;cases hn;split at hu;rename_i e Hj;simp only[Bool.and_eq_true]at hu;obtain⟨u,e1,e2⟩:=C8 ho Hj hu.2 TR Hh Hi h0 h1 h2;exact j8.cC hI hB e1 e2 rfl;simp at hu;exact hu.elim;cases hv;rename_i s rows;simp only at hv;split at hv;rename_i hc;simp only[Bool.and_eq_true,decide_eq_true_eq]at hc;obtain⟨⟨⟨rfl,h0⟩,h1⟩,h2⟩:=hc;cases hv;simp only[ov,fJ]at hn;cases hn;split at hu;rename_i e Hj;simp only[Bool.and_eq_true]at hu;obtain⟨u,e1,e2⟩:=C8 ho Hj hu.2 TR.view Hh Hi h0 h1 h2;exact j8.cC hI hB e1 e2 rfl;simp at hu;exact hu.elim;cases hv;cases hv;cases ha;rename_i m hmx;obtain⟨z,rfl⟩:∃z,mx=some z:=by cases mx<;>simp_all
 simp only[Option.toList_some,List.map_cons,List.map_nil,lg,kP]at hR2;have hz:=hR2.1.jP;split at ha;rename_i v hv;cases ha;unfold ko at hv;split at hv;simp at hv;simp only at hv;split at hv;rename_i hc;simp only[Bool.and_eq_true,decide_eq_true_eq,beq_iff_eq]at hc;obtain⟨⟨rfl,rfl⟩,rfl⟩:=hc;cases hv;simp only[ov,fJ]at hn;cases hn;split at hu;rename_i e Hj;simp only[Bool.and_eq_true]at hu;exact j8.cC hI hB (C9 ho Hj hu.2 TR Hh Hi (.inr ⟨z,rfl,Yp rfl,hz⟩)) .U rfl;simp at hu;exact hu.elim;cases hv;simp only at hv;split at hv;rename_i hc;simp only[Bool.and_eq_true,decide_eq_true_eq,beq_iff_eq]at hc;obtain⟨⟨rfl,rfl⟩,rfl⟩:=hc;cases hv;simp only[ov,fJ]at hn;cases hn;split at hu;rename_i e Hj;simp only[Bool.and_eq_true]at hu;obtain⟨u,e1,e2⟩:=Bu ho Hj hu.2 TR Hh Hi (.inr ⟨z,rfl,Yp rfl,hz⟩);exact j8.cC hI hB e1 e2 rfl;simp at hu;exact hu.elim;cases hv;rename_i s rows;simp only at hv;split at hv;rename_i hc;simp only[Bool.and_eq_true,decide_eq_true_eq]at hc;obtain⟨⟨rfl,rfl⟩,rfl⟩:=hc;cases hv;simp only[ov,fJ]at hn;cases hn;split at hu;rename_i e Hj;simp only[Bool.and_eq_true]at hu;obtain⟨u,e1,e2⟩:=Da ho Hj hu.2 TR Hh Hi (Yp rfl) hz;exact j8.cC hI hB e1 e2 rfl;simp at hu;exact hu.elim;cases hv;rename_i s rows;simp only at hv;split at hv;rename_i hc;simp only[Bool.and_eq_true,decide_eq_true_eq]at hc;obtain⟨⟨rfl,rfl⟩,rfl⟩:=hc;cases hv;simp only[ov,fJ]at hn;cases hn;split at hu;rename_i e Hj;simp only[Bool.and_eq_true]at hu;obtain⟨u,e1,e2⟩:=Da ho Hj hu.2 TR.view Hh Hi (Yp rfl) hz;exact j8.cC hI hB e1 e2 rfl;simp at hu;exact hu.elim;cases hv;cases hv;cases ha;cases ha;cases ha
end
end Ax
