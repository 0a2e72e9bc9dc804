/- Part of a proof. -/
import Derived.Test.YtpnadocbfbbboaaGreatT
import Derived.Test.YtpnadocbfbbboaaGreatR
import Derived.Test.YtpnadocbfbbboaaGreatH
import Derived.Test.YtpnadocbfbbboaaGreatX

set_option maxRecDepth 100000
namespace aiQ
open Ax Go V7 lf mG wU zj
theorem L4{e f:E}(h:ep e=ep f):e.k=f.k/\e.n=f.n/\e.ty=f.ty/\e.ref=f.ref/\lT e.ay=lT f.ay:=by
 rw[HC,HC]at h;injection h with h1 h2 h3 h4 h5 h6 h7 h8 h9
 exact⟨h1,h2,h8,h9,h6⟩
theorem BC{s u:Sm}(h:Dh s=Dh u):s.k=u.k/\s.ref=u.ref/\lT s.es=lT u.es/\vM s.bd=vM u.bd/\vM s.el=vM u.el:=by
 rw[JC,JC]at h;injection h with h1 h2 h3 h4 h5 h6 h7 h8 h9
 exact⟨h1,h9,h5,h6,h7⟩
theorem jv(e:E)(l:List E):lT (e::l)=ep e::lT l:=by (conv=>lhs;unfold lT)<;>rfl
theorem AF(e:Sm)(l:List Sm):vM (e::l)=Dh e::vM l:=by (conv=>lhs;unfold vM)<;>rfl
theorem JK:∀l r:List E,lT (l++r)=lT l++lT r
 |[],r=>by simp[lT]|e::l,r=>by rw[List.cons_append,jv,jv,JK l r];rfl
theorem L5:∀(n:Nat){l m:List E},lT l=lT m->lT (l.drop n)=lT (m.drop n)
 |0,l,m,h=>h|n+1,[],[],_=>rfl|n+1,[],y::m,h=>by rw[jv]at h;simp[lT]at h|n+1,x::l,[],h=>by rw[jv]at h;simp[lT]at h|n+1,x::l,y::m,h=>by
  rw[jv,jv]at h;exact L5 n (List.cons.inj h).2
theorem Fk{l m:List E}(h:lT l=lT m):ep (zk l)=ep (zk m):=by
 cases l with
 |nil=>cases m with
  |nil=>rfl|cons y m=>rw[jv]at h;simp[lT]at h
 |cons x l=>cases m with
  |nil=>rw[jv]at h;simp[lT]at h|cons y m=>rw[jv,jv]at h;exact(List.cons.inj h).1
def EE(a b:E->Fm->Rs->Int×Rs):Prop:=∀e f,ep e=ep f->a e=b f
def SS(a b:Sm->Rs×Fm->Rs×Fm):Prop:=∀s u,Dh s=Dh u->a s=b u
theorem xW{a b:E->Fm->Rs->Int×Rs}(h:EE a b)(f:Fm):∀{l m:List E}(r:Rs),lT l=lT m->vals a f l r=vals b f m r
 |[],[],r,_=>rfl|[],y::m,r,h=>by rw[jv]at h;simp[lT]at h|x::l,[],r,h=>by rw[jv]at h;simp[lT]at h|x::l,y::m,r,hq=>by
  rw[jv,jv]at hq;obtain⟨q1,q2⟩:=List.cons.inj hq;unfold vals;rw[h x y q1,xW h f _ q2]
theorem uA{a b:Sm->Rs×Fm->Rs×Fm}(h:SS a b):∀{l m:List Sm}(x:Rs×Fm),vM l=vM m->m8 a l x=m8 b m x
 |[],[],x,_=>rfl|[],y::m,x,h=>by rw[AF]at h;simp[vM]at h|s::l,[],x,h=>by rw[AF]at h;simp[vM]at h|s::l,u::m,x,hq=>by
  rw[AF,AF]at hq;obtain⟨q1,q2⟩:=List.cons.inj hq;unfold m8;rw[h s u q1,uA h _ q2]
theorem Wg:∀{a b:List Bd},RF a b->∀i,(a.getD i B0).vars=(b.getD i B0).vars/\vM (a.getD i B0).code=vM (b.getD i B0).code
 |[],[],_,i=>by simp|[],_::_,h,_=>h.elim|_::_,[],h,_=>h.elim|x::a,y::b,h,0=>⟨h.1,h.2.1⟩
 |x::a,y::b,h,i+1=>Wg h.2.2 i
structure CC (C D:Cx):Prop where
 eC:C.eC=D.eC
 bz:C.bz=D.bz
 ng:C.ng=D.ng
 bs:RF C.bs D.bs
variable {C D:Cx}
theorem HK(h:CC C D){a b:Sm->Rs×Fm->Rs×Fm}(hS:SS a b)(i:Int)(l:List Int)(r:Rs):fQ C a i l r=fQ D b i l r:=by
 obtain⟨h1,h2⟩:=Wg h.bs i.toNat;unfold fQ;rw[h1,uA hS _ h2]
theorem JL(h:CC C D)(r:Rs):tg C r=tg D r:=by unfold tg;rw[h.eC]
theorem BE(h:CC C D){a b:E->Fm->Rs->Int×Rs}{s t:Sm->Rs×Fm->Rs×Fm}(hE:EE a b)(hS:SS s t){c d:E}(hc:ep c=ep d){l m:List Sm}(hl:vM l=vM m):∀(k:Nat)(x:Rs×Fm),fA C a s c l k x=fA D b t d m k x
 |0,x=>rfl|k+1,x=>by
  unfold fA;rw[hE c d hc,JL h,uA hS _ hl,BE h hE hS hc hl k]
theorem Wh{s t:Sm->Rs×Fm->Rs×Fm}(hS:SS s t)(k ref:Int){b1 b2 l1 l2:List Sm}(hb:vM b1=vM b2)(hl:vM l1=vM l2)(l:List Int)(x:Rs×Fm):nW s k ref b1 l1 l x=nW t k ref b2 l2 l x:=by
 unfold nW;rw[uA hS _ hb,uA hS _ hl]
theorem RN{a b:E->Fm->Rs->Int×Rs}{s t:Sm->Rs×Fm->Rs×Fm}(hE:EE a b)(hS:SS s t){u v:Sm}(h:Dh u=Dh v)(x:Rs×Fm):kM a s u x=kM b t v x:=by
 obtain⟨h1,h2,h3,h4,h5⟩:=BC h;obtain⟨e1,_,_,e4,e5⟩:=L4 (Fk h3);unfold kM;have q:lT ((zk u.es).ay++u.es.drop 1)=lT ((zk v.es).ay++v.es.drop 1):=by rw[JK,JK,e5,L5 1 h3]
 rw[h1,h2,e1,e4,xW hE _ _ q,xW hE _ _ h3];simp only[Wh hS _ _ h4 h5]
theorem RO(h:CC C D){a b:E->Fm->Rs->Int×Rs}{s t:Sm->Rs×Fm->Rs×Fm}(hE:EE a b)(hS:SS s t){e f:E}(he:ep e=ep f)(m:Fm)(r:Rs):mK C a s e m r=mK D b t f m r:=by
 obtain⟨h1,h2,h3,h4,h5⟩:=L4 he;unfold mK;rw[h1,h2,h3,h4,xW hE _ _ h5];have hp:∀k n ref rc (f:Fm) (l:List Int) (r:Rs),j6 C (fQ C s) k n ref rc f l r=j6 D (fQ D t) k n ref rc f l r:=λk n ref rc f l r=>by
  unfold j6;rw[HK h hS,h.bz]
 simp only[hp]
theorem P7(h:CC C D):∀n,EE (ev C n).1 (ev D n).1/\SS (ev C n).2 (ev D n).2
 |0=>by
  refine⟨λe f _=>rfl,λs u q=>?_⟩;obtain⟨h1,h2,h3,h4,h5⟩:=BC q;funext x;have:=BE h (a:=λ_ _ r=>((0:Int),stop r)) (b:=λ_ _ r=>((0:Int),stop r)) (s:=λ_ x=>x) (t:=λ_ x=>x) (λ_ _ _=>rfl) (λ_ _ _=>rfl) (Fk h3) h4 0 x;show (if s.k=1 then x else if s.k=6 then fA C (λ_ _ r=>(0,stop r)) (λ_ x=>x) (zk s.es) s.bd 0 x else (stop x.1,x.2))=(if u.k=1 then x else if u.k=6 then fA D (λ_ _ r=>(0,stop r)) (λ_ x=>x) (zk u.es) u.bd 0 x else (stop x.1,x.2));rw[this,h1]
 |n+1=>by
  obtain⟨iE,iS⟩:=P7 h n;refine⟨λe f q=>?_,λs u q=>?_⟩;funext m r;show (if tg C r=true then mK C (ev C n).1 (ev C n).2 e m (dm r) else (0,stop r))=(if tg D r=true then mK D (ev D n).1 (ev D n).2 f m (dm r) else (0,stop r));rw[JL h,RO h iE iS q];obtain⟨h1,h2,h3,h4,h5⟩:=BC q;funext x;show (if s.k=1 then x else if s.k=6 then fA C (ev C n).1 (ev C n).2 (zk s.es) s.bd (n+1) x else if tg C x.1=true then kM (ev C n).1 (ev C n).2 s (dm x.1,x.2) else (stop x.1,x.2)) =
   (if u.k=1 then x else if u.k=6 then fA D (ev D n).1 (ev D n).2 (zk u.es) u.bd (n+1) x else if tg D x.1=true then kM (ev D n).1 (ev D n).2 u (dm x.1,x.2) else (stop x.1,x.2))
  rw[h1,JL h,BE h iE iS (Fk h3) h4,RN iE iS q]
theorem Wi(h:CC C D)(main:Int)(qG:List Int):run C main qG=run D main qG:=by
 unfold run;rw[h.eC,HK h (P7 h D.eC).2];unfold r0;rw[h.ng]
end aiQ
namespace aiR
open Ax Go bX V7 lf mG wU U7 N7 K9 S9 Bp aiQ
open zj hiding vU
theorem fz(a b:Option Int):(x8 a b).isNone=(a.isNone&&b.isNone):=by cases a<;>rfl
theorem rZ{α β:Type}{mV:List β->β->Option Int}{g h:α->β}{l:List α}(hb:∀(before:List α)(x:α),(mV (before.map g) (g x)).isNone=(mV (before.map h) (h x)).isNone):∀k,(gj mV (l.map g) k).isNone=(gj mV (l.map h) k).isNone
 |0=>rfl|k+1=>by
  unfold gj;rw[fz,fz,rZ hb k,List.getElem?_map,List.getElem?_map];cases l[k]? with
  |none=>rfl|some x=>
   simp only[Option.map_some];rw[<-List.map_take,<-List.map_take,hb]
theorem ZW(rs:List (List UInt8))(before:List PD)(x:PD):(vQ rs (before.map Az) (Az x)).isNone=(vQ rs (before.map id) (id x)).isNone:=by
 unfold vQ;have e:(before.map Az).any (λq=>decide (q.name=(Az x).name))=(before.map id).any (λq=>decide (q.name=(id x).name)):=by
  rw[List.any_map,List.any_map];rfl
 rw[e];show (if _ || !(dA rs x.on x.od).2 then some (0:Int) else none).isNone=(if _ || !(dA rs x.on x.od).2 then some x.at_ else none).isNone;split<;>rfl
theorem BF(rs:List (List UInt8))(l:List PD):(gj (vQ rs) (l.map Az) (l.map Az).length).isNone=(gj (vQ rs) l l.length).isNone:=by
 have:=rZ (mV:=vQ rs) (g:=Az) (h:=id) (l:=l) (ZW rs) l.length;rw[List.map_id]at this;rw[List.length_map];exact this
theorem ZX(before:List Rc)(x:Rc):(vU (before.map (qb ∘ JV)) ((qb ∘ JV) x)).isNone=(vU (before.map qb) (qb x)).isNone:=by
 unfold vU;have e:(before.map (qb ∘ JV)).any (λq=>decide (q.name=((qb ∘ JV) x).name))=(before.map qb).any (λq=>decide (q.name=(qb x).name)):=by
  rw[List.any_map,List.any_map];rfl
 rw[e];split<;>rfl
theorem ZY(rs:List (List UInt8))(before:List Rc)(x:Rc):(IU rs (before.map (qb ∘ JV)) ((qb ∘ JV) x)).isNone=(IU rs (before.map qb) (qb x)).isNone:=by
 unfold IU;have e1:og ((qb ∘ JV) x).bH=x.bH.map Az:=l9 _;have e2:og (qb x).bH=x.bH:=l9 _;rw[e1,e2];exact BF rs x.bH
theorem ZZ(rs:List (List UInt8))(before:List Fc)(x:Fc):(IW rs (before.map (qD ∘ Dg)) ((qD ∘ Dg) x)).isNone=(IW rs (before.map qD) (qD x)).isNone:=by
 unfold IW;have e1:og ((qD ∘ Dg) x).params=x.params.map Az:=l9 _;have e2:og (qD x).params=x.params:=l9 _;rw[fz,fz,fz,fz,e1,e2,BF];congr 1;congr 1;unfold YO;have e:(before.map (qD ∘ Dg)).any (λq=>decide (q.name=((qD ∘ Dg) x).name))=(before.map qD).any (λq=>decide (q.name=(qD x).name)):=by
  rw[List.any_map,List.any_map];rfl
 rw[e];split<;>rfl;unfold Lo;show (if x.ct && !(dA rs x.on x.od).2 then some (0:Int) else none).isNone=(if x.ct && !(dA rs x.on x.od).2 then some x.a else none).isNone;split<;>rfl
theorem JM(p:Pg):eP (Jy p)=eP p:=by
 have:∀l:List Fc,(l.map (qD ∘ Dg)).findIdx? l8=(l.map qD).findIdx? l8:=by
  intro l;induction l with
  |nil=>rfl|cons f l ih=>
   simp only[List.map_cons,List.findIdx?_cons];have e:l8 ((qD ∘ Dg) f)=l8 (qD f):=by
    unfold l8;have e1:og ((qD ∘ Dg) f).params=f.params.map Az:=l9 _;have e2:og (qD f).params=f.params:=l9 _;rw[e1,e2];show (decide (f.name=Cd)&&decide (f.params.map Az=[]) && !f.ct)=(decide (f.name=Cd)&&decide (f.params=[]) && !f.ct);simp only[List.map_eq_nil_iff]
   rw[e,ih]
 unfold eP rP;rw[nV,nV];show (match ((p.funcs.map Dg).map qD).findIdx? l8 with|some k=>(k:Int)|none=>-1)=_;rw[List.map_map,this]
 rfl
theorem abl(p:Pg):aU (Jy p)=aU p:=by
 have e1:cz (Jy p)=cz p:=by
  show (p.bz.map JV).map (·.name)=p.bz.map (·.name);rw[List.map_map];rfl
 have e2:∀rs (l:List PD),mq rs (l.map Az)=mq rs l:=λrs l=>by
  unfold mq;rw[List.map_map];rfl
 unfold aU;rw[e1];show Hd.mk (cz p) ((p.bz.map JV).map λr=>(r.name,mq (cz p) r.bH)) (mq (cz p) (p.aH.map Az)) ((p.funcs.map Dg).map (FU (cz p)))=_;rw[e2,List.map_map,List.map_map];congr 1;exact List.map_congr_left λr _=>by
  show (r.name,mq (cz p) (r.bH.map Az))=_;rw[e2]
 exact List.map_congr_left λf _=>by
  show FU (cz p) (Dg f)=_;unfold FU;show Sg.mk f.name (mq (cz p) (f.params.map Az)) f.ct _=_;rw[e2];rfl
theorem L6(p:Pg):(lO (jX (Jy p))).isNone=(lO (jX p)).isNone:=by
 have hm:=JM p;unfold eP at hm;have h3:(vu (jX (Jy p))).isNone=(vu (jX p)).isNone:=by
  have r1:dJ (jX (Jy p)).bz=p.bz.map (qb ∘ JV):=by
   rw[tc];show (p.bz.map JV).map qb=_;rw[List.map_map]
  have r2:jz (jX (Jy p)).funcs=p.funcs.map (qD ∘ Dg):=by
   rw[nV];show (p.funcs.map Dg).map qD=_;rw[List.map_map]
  have r3:og (jX (Jy p)).aH=p.aH.map Az:=ET _;have r4:kq (p.bz.map (qb ∘ JV))=kq (p.bz.map qb):=by
   unfold kq;rw[List.map_map,List.map_map];rfl
  unfold vu;rw[r1,r2,r3,tc,nV,ET,r4];simp only[fz,List.length_map];rw[rZ (mV:=vU) ZX,rZ (mV:=IU _) (ZY _),rZ (mV:=IW _) (ZZ _)];have:=BF (kq (p.bz.map qb)) p.aH;rw[List.length_map]at this;rw[this]
 unfold lO;rw[hm];split;rw[fz,fz,h3];exact h3
theorem NW{p q:Pg}(h:Jy p=Jy q):aU p=aU q/\eP p=eP q/\(lO (jX p)).isNone=(lO (jX q)).isNone:=by
 rw[<-abl p,<-abl q,<-JM p,<-JM q,<-L6 p,<-L6 q,h];exact⟨rfl,rfl,rfl⟩
theorem L7{p q:Pg}(h:Jy p=Jy q):p.funcs.map (λf=>Cm f.body)=q.funcs.map (λf=>Cm f.body):=by
 have:(p.funcs.map Dg).map (·.body)=(q.funcs.map Dg).map (·.body):=by
  have h3:p.funcs.map Dg=q.funcs.map Dg:=congrArg Pg.funcs h;rw[h3]
 rw[List.map_map,List.map_map]at this;exact this
theorem HL{a b:Option Int}(h:a.isNone=b.isNone):(a=none/\b=none)\/∃x y,a=some x/\b=some y:=by
 cases a with
 |none=>cases b with
  |none=>exact .inl ⟨rfl,rfl⟩|some y=>cases h
 |some x=>cases b with
  |none=>cases h|some y=>exact .inr ⟨x,y,rfl,rfl⟩
theorem Wj{p q:Pg}(h:Jy p=Jy q)(qG:List Int)(n:Nat):E7 p qG n=E7 q qG n:=by
 obtain⟨h1,h2,h3⟩:=NW h;have hc:=PU (H:=aU q) (ss:=(aU q).cu) (L7 h);have hs:(tf p).isNone=(tf q).isNone:=by
  unfold tf;rcases HL h3 with⟨a,b⟩|⟨x,y,a,b⟩;rw[a,b,h1];simp only;cases e1:pM (aU q) (aU q).cu p.funcs with
  |error x=>
   cases e2:pM (aU q) (aU q).cu q.funcs with
   |error y=>rfl|ok y=>rw[e1,e2]at hc;exact hc.elim
  |ok x=>
   cases e2:pM (aU q) (aU q).cu q.funcs with
   |error y=>rw[e1,e2]at hc;exact hc.elim|ok y=>rw[e1,e2]at hc;exact HE hc
  rw[a,b];rfl
 unfold E7;rcases HL hs with⟨a,b⟩|⟨x,y,a,b⟩;rw[a,b,h1,h2];simp only;cases e1:pM (aU q) (aU q).cu p.funcs with
 |error x=>
  cases e2:pM (aU q) (aU q).cu q.funcs with
  |error y=>rfl|ok y=>rw[e1,e2]at hc;exact hc.elim
 |ok x=>
  cases e2:pM (aU q) (aU q).cu q.funcs with
  |error y=>rw[e1,e2]at hc;exact hc.elim|ok y=>
   rw[e1,e2]at hc;exact Wi (C:=Au (aU q) x n) (D:=Au (aU q) y n) ⟨rfl,rfl,rfl,hc⟩ _ _
 rw[a,b]
end aiR
namespace Lx
open Ax Go V7 lf mG wU U2 N7 RJ Sb
def Wk(r:List AV):Prop:=((F3 r).k=1->kS (F3 r).t=true)/\((F3 r).k=2->0<=(F3 r).n/\(F3 r).n<9223372036854775808)
theorem yE(k:Int)(t:List UInt8)(n:Int)(a:Nat):(F3 (sq k t n a)).k=k/\(F3 (sq k t n a)).t=t/\(F3 (sq k t n a)).n=n:=⟨rfl,rfl,rfl⟩
theorem L8:∀(l:List UInt8)(n v:Nat),n<9223372036854775808->jf n l=some v->v<9223372036854775808
 |[],n,v,h,e=>by unfold jf at e;cases e;exact h|c::l,n,v,h,e=>by
  unfold jf at e;split at e;rename_i hb;rw[Nat.ble_eq]at hb;by_cases hd:c.toNat-48<=9223372036854775807;exact L8 l _ v (by omega) e;have:=c.toNat_lt;omega;cases e
theorem Z0{a:Nat}{l:List UInt8}{aG:List AV}{k:Nat}(h:qa a l=(aG,k+1)):Wk aG:=by
 unfold qa at h;split at h;cases h;split at h;unfold lX at h;split at h;injection h with h1 h2
 rw[<-h1];exact⟨λe=>by simp[yE]at e,λe=>by simp[yE]at e⟩;split at h;rename_i hn;injection h with h1 h2
 rw[<-h1];exact⟨λ_=>hn,λe=>by simp[yE]at e⟩;cases h;split at h;unfold p9 at h;split at h;cases h;rename_i v hv;split at h;cases h;injection h with h1 h2
 rw[<-h1];have:=L8 _ _ _ (by decide) hv;exact⟨λe=>by simp[yE]at e,λ_=>⟨by simp[yE],by simp only[yE];omega⟩⟩;unfold qA at h;split at h;cases h;injection h with h1 h2
 rw[<-h1];exact⟨λe=>by simp[yE]at e,λe=>by simp[yE]at e⟩
theorem wP:∀(n a:Nat)(l:List UInt8)(rows:List (List AV)),tM n a l=(rows,none)->∀r∈rows,Wk r
 |0,_,_,rows,h=>by
  unfold tM at h;cases h;simp
 |n+1,a,[],rows,h=>by
  unfold tM at h;cases h;intro r hr;rw[List.mem_singleton.1 hr];exact⟨λe=>by simp[yE]at e,λe=>by simp[yE]at e⟩
 |n+1,a,c::l,rows,h=>by
  unfold tM at h;split at h;cases h;rename_i t k ho;split at h;rename_i apE hg;cases h;intro r hr;rcases List.mem_cons.1 hr with rfl|hr;exact Z0 ho;exact wP n _ _ _ hg r hr;cases h
theorem Z1{rows:List (List AV)}(h:∀r∈rows,Wk r):qk Pn (mI rows):=by
 intro q;unfold dQ mI;rw[List.getD_eq_getElem?_getD,List.getElem?_map];cases e:rows[q.at_]? with
 |none=>exact⟨λh=>by simp at h,λh=>by simp at h⟩|some r=>exact h r (List.mem_of_getElem? e)
theorem Z2(s:List UInt8):Wb Pn (lQ s).1:=by
 have h0:Wb Pn Ca:=⟨Nat.zero_le _,Nat.zero_le _,Nat.zero_le _,λ_ h=>(by cases h),λ_ h=>(by cases h),λ_ h=>(by cases h)⟩;unfold lQ;split;generalize htp:CE s=z;obtain⟨rows,e⟩:=z;cases e with
 |some e=>exact h0|none=>
  obtain⟨x,hx⟩:=pK (mI rows);simp only;rw[hx,Option.getD_some];exact ZO (Z1 (wP _ _ _ _ htp)) hx
 exact h0
end Lx
