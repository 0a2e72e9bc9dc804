/- Part of a proof. -/
import Derived.Test.YtpnadocbfbbboaaGreatN
import Derived.Test.YtpnadocbfbbboaaGreatV

set_option maxRecDepth 100000
set_option maxHeartbeats 1000000
namespace Lx
open Ax Go V7 lf mG wU U2 N7 RJ Sb
def ZP(r:List AV):TS:=Av (F3 r)
def Lx(l:List UInt8)(ts:List TS):Prop:=∀a n:Nat,l.length+1<=n->∃rows,tM n (a+eW l) (l.drop (eW l))=(rows,none)/\rows.map ZP=ts
theorem aeq:Lx [] [(0,[],0)]:=by
 intro a n hn;cases n with
 |zero=>simp at hn|succ n=>exact⟨_,rfl,rfl⟩
theorem L2{c:UInt8}{l:List UInt8}{ts:List TS}(hc:qh c=true)(h:Lx l ts):Lx (c::l) ts:=by
 intro a n hn;have e:eW (c::l)=eW l+1:=by
  show mU (l.length+1) (c::l)=_;unfold mU;rw[if_pos hc];rfl
 simp only[List.length_cons]at hn;rw[e,show a+(eW l+1)=(a+1)+eW l by omega,List.drop_succ_cons];exact h (a+1) n (by omega)
theorem JF{c:UInt8}{l:List UInt8}{k:Nat}{t:TS}{ts:List TS}(hw:qh c=false)(hc:pJ (c::l)=false)(h1:∀a,∃aG,qa a (c::l)=(aG,k+1)/\ZP aG=t)(h2:Lx ((c::l).drop (k+1)) ts):Lx (c::l) (t::ts):=by
 intro a n hn;have e:eW (c::l)=0:=by
  show mU (l.length+1) (c::l)=_;unfold mU;rw[if_neg (by rw[hw];decide),if_neg (by rw[hc];decide)]
 rw[e,List.drop_zero,Nat.add_zero];cases n with
 |zero=>simp at hn|succ n=>
  obtain⟨aG,r1,r2⟩:=h1 a;simp only[List.length_cons]at hn;obtain⟨rows,b1,b2⟩:=h2 (a+(k+1)) n (by simp only[List.length_drop,List.length_cons];omega);unfold tM;rw[r1];simp only;rw[b1];exact⟨_,rfl,by simp[r2,b2]⟩
theorem PW:∀{ts:List TS}{T:List Tk}{i:Nat},(T.drop i).map Av=ts->th T i ts
 |[],_,_,_=>trivial|x::ts,T,i,h=>by
  have hi:i<T.length:=by
   rcases Nat.lt_or_ge i T.length with h1|h1;exact h1;rw[List.drop_eq_nil_of_le h1]at h;cases h
  rw[List.drop_eq_getElem_cons hi,List.map_cons]at h;obtain⟨h1,h2⟩:=List.cons.inj h;refine⟨?_,PW h2⟩;rw[List.getD_eq_getElem?_getD,List.getElem?_eq_getElem hi];exact h1
def NA(l:List UInt8):Prop:=∀c r,l=c::r->gb c=false/\iD c=false
theorem ZQ{c:UInt8}{r:List UInt8}(h:gb c=false/\iD c=false):NA (c::r):=λd s e=>by cases e;exact h
theorem NT(d:Bool){r:List UInt8}(hr:NA r):∀s:List UInt8,(∀c∈s,pR d c=true)->oM d (s++r)=s.length
 |[],_=>by
  cases r with
  |nil=>rfl|cons c r=>
   obtain⟨h1,h2⟩:=hr c r rfl;simp[oM,pR,h1,h2]
 |c::s,h=>by
  have h1:=h c List.mem_cons_self;have h2:=NT d hr s λx hx=>h x (List.mem_cons_of_mem _ hx);simp[oM,h1,h2]
theorem PX{c:UInt8}(h:gb c=true\/iD c=true):qh c=false/\∀l,pJ (c::l)=false:=by
 have h48:48<=c.toNat:=by
  simp only[gb,iD,Bool.or_eq_true,Bool.and_eq_true,Nat.ble_eq]at h;omega
 refine⟨?_,λl=>?_⟩;simp only[qh,lW,Bool.or_eq_false_iff,decide_eq_false_iff_not];omega;cases l with
 |nil=>rfl|cons b l=>
  simp only[pJ,lW,Bool.and_eq_false_iff,decide_eq_false_iff_not];omega
theorem Fg(k:Int)(t:List UInt8)(n:Int)(a:Nat):ZP (sq k t n a)=(k,t,n):=rfl
theorem JG(a:Nat)(c:UInt8)(l:List UInt8):qa a (c::l)=if gb c then lX a ((c::l).take (oM false (c::l))) (oM false (c::l)) else if iD c then p9 a c (c::l) (oM true (c::l)) else qA a (sW (c::l)):=rfl
theorem L3{c:UInt8}{s r:List UInt8}{ts:List TS}{t:TS}(hc:gb c=true)(hs:∀x∈c::s,pR false x=true)(hr:NA r)(ht:∀a,∃aG,lX a (c::s) (s.length+1)=(aG,s.length+1)/\ZP aG=t)(h:Lx r ts):Lx (c::s++r) (t::ts):=by
 obtain⟨w1,w2⟩:=PX (.inl hc);have hl:=NT false hr (c::s) hs;rw[List.cons_append]at hl ⊢;refine JF (k:=s.length) w1 (w2 _) (λa=>?_) (by simpa using h);rw[JG,if_pos hc,hl];have e:(c::(s++r)).take (c::s).length=c::s:=by simp
 rw[e];exact ht a
theorem Fh{s:List UInt8}(h:kS s=true):∃c r,s=c::r/\gb c=true/\vh s=false/\∀x∈s,pR false x=true:=by
 unfold kS at h;split at h;cases h;rename_i c r;simp only[Bool.and_eq_true,Bool.not_eq_true']at h;refine⟨c,r,rfl,h.1.1.2,h.1.2,λx hx=>?_⟩;have:=List.all_eq_true.1 h.2 x hx;simp only[Bool.or_eq_true]at this;simp only[pR,Bool.not_false,Bool.true_and,Bool.or_eq_true];exact this.symm
theorem oe{s r:List UInt8}{ts:List TS}(hn:kS s=true)(hr:NA r)(h:Lx r ts):Lx (s++r) (Nm s::ts):=by
 obtain⟨c,l,rfl,h1,h2,h3⟩:=Fh hn;refine L3 h1 h3 hr (λa=>?_) h;unfold lX;rw[if_neg (by rw[h2];decide),if_pos hn];exact⟨_,rfl,rfl⟩
def wOk(s:List UInt8):Bool:=vh s&&s.all (λx=>pR false x)&&decide (jR s=3)&&(match s with|c::_=>gb c | []=>false)
theorem iq{s r:List UInt8}{ts:List TS}(hw:wOk s=true)(hr:NA r)(h:Lx r ts):Lx (s++r) (W s::ts):=by
 unfold wOk at hw;simp only[Bool.and_eq_true,decide_eq_true_eq]at hw;obtain⟨⟨⟨h1,h2⟩,h3⟩,h4⟩:=hw;split at h4;rename_i c l;refine L3 h4 (λx hx=>List.all_eq_true.1 h2 x hx) hr (λa=>?_) h;unfold lX;rw[if_pos h1];exact⟨_,rfl,by rw[Fg,<-h3];rfl⟩;cases h4
theorem aiO{on r:List UInt8}{ts:List TS}(hn:CM (λs=>kS s=true) on)(hr:NA r)(h:Lx r ts):Lx (on++r) (WU on::ts):=by
 rcases hn with rfl|rfl|hn;exact iq (by decide) hr h;exact iq (by decide) hr h;have:WU on=Nm on:=by
  unfold WU;rw[if_neg];intro c;rcases c with rfl|rfl;revert hn;decide;revert hn;decide
 rw[this];exact oe hn hr h
def sOk(c:UInt8):Bool:=!gb c && !iD c && !qh c&&Ni c KZ&&decide (c≠47)&&decide (c≠60)&&decide (c≠61)&&decide (c≠33)
theorem aer{c:UInt8}{r:List UInt8}{ts:List TS}(hc:gb c=false)(hd:iD c=false)(hw:qh c=false)(hk:pJ (c::r)=false)(hs:sW (c::r)=[c])(h:Lx r ts):Lx (c::r) (W [c]::ts):=by
 refine JF (k:=0) hw hk (λa=>?_) (by simpa using h);rw[JG,if_neg (by rw[hc];decide),if_neg (by rw[hd];decide),hs];refine⟨_,rfl,?_⟩;rw[Fg];have:jR [c]=4:=by
  unfold jR;simp only;rw[if_neg];simp only[gb,Bool.or_eq_false_iff,Bool.and_eq_false_iff]at hc;intro q;rcases hc.1 with e|e;rw[<-Bool.not_eq_true,Nat.ble_eq]at e;omega;rw[<-Bool.not_eq_true,Nat.ble_eq]at e;omega
 simp[wU.W,this]
theorem cw{c:UInt8}{r:List UInt8}{ts:List TS}(hc:sOk c=true)(h:Lx r ts):Lx (c::r) (W [c]::ts):=by
 unfold sOk at hc;simp only[Bool.and_eq_true,Bool.not_eq_true',decide_eq_true_eq]at hc;obtain⟨⟨⟨⟨⟨⟨⟨h1,h2⟩,h3⟩,h4⟩,h5⟩,h6⟩,h7⟩,h8⟩:=hc;have n47:c.toNat≠47:=λe=>h5 (by apply UInt8.toNat_inj.1;exact e);have n60:c.toNat≠60:=λe=>h6 (by apply UInt8.toNat_inj.1;exact e);have n61:c.toNat≠61:=λe=>h7 (by apply UInt8.toNat_inj.1;exact e);have n33:c.toNat≠33:=λe=>h8 (by apply UInt8.toNat_inj.1;exact e);have n38:c.toNat≠38:=λe=>by
  have:c=38:=by apply UInt8.toNat_inj.1;exact e
  subst this;revert h4;decide
 have arT:c.toNat≠124:=λe=>by
  have:c=124:=by apply UInt8.toNat_inj.1;exact e
  subst this;revert h4;decide
 refine aer h1 h2 h3 ?_ ?_ h;cases r with
 |nil=>rfl|cons b r=>
  simp only[pJ,lW,Bool.and_eq_false_iff,decide_eq_false_iff_not];exact .inl n47
 have hm:zQ ((c::r).take 2) FQ=false:=by
  cases r with
  |nil=>simp[FQ,zQ,eqB]|cons b r=>
   simp[FQ,zQ,eqB,lW];omega
 unfold sW;rw[hm,if_neg (by decide)];simp only;rw[if_pos h4]
theorem jd{r:List UInt8}{ts:List TS}(h:Lx r ts):Lx (32::r) ts:=L2 (by decide) h
theorem yD{r:List UInt8}{ts:List TS}(h:Lx r ts):Lx (10::r) ts:=L2 (by decide) h
theorem abk{s r:List UInt8}{ts:List TS}(hs:s=[43]\/s=[45]\/s=[42]\/s=[47]\/s=[37]\/s=[60]\/s=[60,61]\/s=[61,61]\/s=[33,61]\/s=[38,38]\/s=[124,124]\/s=[61])(h:Lx r ts):Lx (s++32::r) (W s::ts):=by
 have h':=jd h;have one:∀c:UInt8,gb c=false->iD c=false->qh c=false->pJ (c::32::r)=false->sW (c::32::r)=[c]->Lx ([c]++32::r) (W [c]::ts):=λc a1 a2 a3 a4 a5=>aer a1 a2 a3 a4 a5 h';have two:∀c d:UInt8,gb c=false->iD c=false->qh c=false->pJ (c::d::32::r)=false->sW (c::d::32::r)=[c,d]->jR [c,d]=4->Lx ([c,d]++32::r) (W [c,d]::ts):=λc d a1 a2 a3 a4 a5 a6=>by
  show Lx (c::(d::32::r)) _;refine JF (k:=1) a3 a4 (λa=>?_) (by simpa using h');rw[JG,if_neg (by rw[a1];decide),if_neg (by rw[a2];decide),a5];exact⟨_,rfl,by rw[Fg];simp[wU.W,a6]⟩
 rcases hs with rfl|rfl|rfl|rfl|rfl|rfl|rfl|rfl|rfl|rfl|rfl|rfl;exact one _ rfl rfl rfl rfl rfl;exact one _ rfl rfl rfl rfl rfl;exact one _ rfl rfl rfl rfl rfl;exact one _ rfl rfl rfl rfl rfl;exact one _ rfl rfl rfl rfl rfl;exact one _ rfl rfl rfl rfl rfl;exact two _ _ rfl rfl rfl rfl rfl rfl;exact two _ _ rfl rfl rfl rfl rfl rfl;exact two _ _ rfl rfl rfl rfl rfl rfl;exact two _ _ rfl rfl rfl rfl rfl rfl;exact two _ _ rfl rfl rfl rfl rfl rfl;exact one _ rfl rfl rfl rfl rfl
end Lx
namespace Lx
open Ax Go V7 lf mG wU U2 N7 RJ Sb
abbrev Pn:List UInt8->Prop:=λs=>kS s=true
theorem RM{n:Nat}(h:n≠0):qc n=qc (n / 10)++[UInt8.ofNat (48+n % 10)]:=by
 rw[qc,if_neg h]
theorem JH(k:Nat)(h:k<10):(UInt8.ofNat (48+k)).toNat=48+k:=by
 simp;omega
theorem aes(k:Nat)(h:k<10):iD (UInt8.ofNat (48+k))=true:=by
 unfold iD;rw[JH k h];simp;omega
theorem HI(n:Nat):n<9223372036854775808->(∀x∈qc n,iD x=true)/\jf 0 (qc n)=some n/\(n≠0->∃c r,qc n=c::r/\c.toNat≠48):=by
 induction n using Nat.strongRecOn with
 |_ n ih=>
  intro hn;by_cases h0:n=0;subst h0;have:qc 0=[]:=by rw[qc];rfl
  rw[this];exact⟨by simp,rfl,λh=>absurd rfl h⟩;obtain⟨i1,i2,i3⟩:=ih (n / 10) (by omega) (by omega);rw[RM h0];have abu:∀(l:List UInt8) (m v:Nat) (c:UInt8),jf m l=some v->jf m (l++[c])=jf v [c]:=by
   intro l;induction l with
   |nil=>intro m v c h;unfold jf at h;cases h;rfl|cons a l ih=>
    intro m v c h;unfold jf at h;split at h;rename_i hb;rw[List.cons_append];conv=>lhs;unfold jf
    rw[if_pos hb];exact ih _ _ _ h;cases h
  refine⟨λx hx=>?_,?_,λ_=>?_⟩;rcases List.mem_append.1 hx with hx|hx;exact i1 x hx;rw[List.mem_singleton.1 hx];exact aes _ (by omega);rw[abu _ _ _ _ i2];unfold jf;rw[JH _ (by omega),if_pos (by rw[Nat.ble_eq];omega)];unfold jf;congr 1;omega;by_cases h1:n / 10=0;have e:qc (n / 10)=[]:=by rw[h1,qc];rfl
  rw[e];exact⟨_,_,rfl,by rw[JH _ (by omega)];omega⟩;obtain⟨c,r,e,hc⟩:=i3 h1;rw[e];exact⟨c,_,rfl,hc⟩
theorem aet{n:Int}(h0:0<=n)(h1:n<9223372036854775808){r:List UInt8}{ts:List TS}(hr:NA r)(h:Lx r ts):Lx (WW n.toNat++r) (Nu n::ts):=by
 obtain⟨m,rfl⟩:∃m:Nat,n=m:=⟨n.toNat,by omega⟩;rw[Int.toNat_natCast];have key:∃c l,WW m=c::l/\gb c=false/\iD c=true/\(∀x∈c::l,iD x=true)/\jf 0 (c::l)=some m/\(l=[]\/c.toNat≠48):=by
  unfold WW;by_cases hm:m=0;subst hm;exact⟨48,[],rfl,by decide,by decide,by decide,by decide,.inl rfl⟩;rw[if_neg hm];obtain⟨a1,a2,a3⟩:=HI m (by omega);obtain⟨c,l,e,hc⟩:=a3 hm;rw[e]at a1 a2 ⊢;have hd:=a1 c List.mem_cons_self;refine⟨c,l,rfl,?_,hd,a1,a2,.inr hc⟩;simp only[iD,Bool.and_eq_true,Nat.ble_eq]at hd;simp only[gb,Bool.or_eq_false_iff,Bool.and_eq_false_iff];refine⟨.inl ?_,.inl ?_⟩;rw[<-Bool.not_eq_true,Nat.ble_eq];omega;rw[<-Bool.not_eq_true,Nat.ble_eq];omega
 obtain⟨c,l,e,k1,k2,k3,k4,k5⟩:=key;rw[e];obtain⟨w1,w2⟩:=PX (.inr k2);have hl:=NT true hr (c::l) (λx hx=>by simp[pR,k3 x hx]);rw[List.cons_append]at hl ⊢;refine JF (k:=l.length) w1 (w2 _) (λa=>?_) (by simpa using h);rw[JG,if_neg (by rw[k1];decide),if_pos k2,hl];have et:(c::(l++r)).take (c::l).length=c::l:=by simp
 have ed:(c::(l++r)).drop (c::l).length=r:=by simp
 unfold p9;rw[et,k4];simp only;have Mk:qz (c::(l++r)) (c::l).length=false:=by
  unfold qz;rw[ed];cases r with
  |nil=>rfl|cons d r=>exact(hr d r rfl).1
 rw[Mk,Bool.or_false,if_neg];exact⟨_,rfl,rfl⟩;simp only[Bool.and_eq_true,Nat.ble_eq,lW,decide_eq_true_eq];rintro⟨q1,q2⟩;rcases k5 with k5|k5;subst k5;simp at q1;exact k5 q2
theorem NU{c:UInt8}(hc:sOk c=true){r:List UInt8}{ts:List TS}(h:Lx r ts):∀k,Lx (List.replicate k c++r) (List.replicate k (W [c])++ts)
 |0=>h|k+1=>by
  simp only[List.replicate_succ,List.cons_append];exact cw hc (NU hc h k)
theorem bT{c:UInt8}{r:List UInt8}(h:(!gb c && !iD c)=true):NA (c::r):=by
 simp only[Bool.and_eq_true,Bool.not_eq_true']at h;exact ZQ h
theorem BB{on:List UInt8}{od:Int}(hn:CM Pn on){r:List UInt8}{ts:List TS}(hr:NA r)(h:Lx r ts):Lx (yC on od++r) (uT on od++ts):=by
 unfold yC uT;rw[List.append_assoc,List.append_assoc,List.append_assoc];refine NU (by decide) ?_ _;refine aiO hn ?_ (NU (by decide) h _);cases od.toNat with
 |zero=>exact hr|succ k=>rw[List.replicate_succ];exact bT (by decide)
def LX(e:E):Prop:=∀(r:List UInt8)(ts:List TS),NA r->Lx r ts->Lx (jZ e++r) (uX e++ts)
theorem HJ{l:Nat}{e:E}(he:LX e){r:List UInt8}{ts:List TS}(hr:NA r)(h:Lx r ts):Lx (wb l (iG e.k,jZ e)++r) (wr l (iG e.k,uX e)++ts):=by
 unfold wb wr;by_cases c:(iG e.k,jZ e).1<l;rw[if_pos c,if_pos (show (iG e.k,uX e).1<l from c)];simp only[List.cons_append,List.append_assoc,List.nil_append];exact cw (by decide) (he _ _ (bT (by decide)) (cw (by decide) h));rw[if_neg c,if_neg (show ¬(iG e.k,uX e).1<l from c)];exact he _ _ hr h
theorem PY{r:List UInt8}{ts:List TS}(hr:NA r)(h:Lx r ts):∀l:List E,(∀e∈l,LX e)->Lx (By (iH l)++r) (Js (Hu l)++ts)/\NA (By (iH l)++r)
 |[],_=>⟨h,hr⟩
 |e::l,he=>by
  obtain⟨i1,i2⟩:=PY hr h l λx hx=>he x (List.mem_cons_of_mem _ hx);simp only[iH,Hu,By,Js,List.cons_append,List.append_assoc];exact⟨cw (by decide) (jd (he e List.mem_cons_self _ _ i2 i1)),bT (by decide)⟩
theorem ZR{r:List UInt8}{ts:List TS}(hr:NA r)(h:Lx r ts)(l:List E)(he:∀e∈l,LX e):Lx (pQ (iH l)++r) (args (Hu l)++ts):=by
 cases l with
 |nil=>exact h|cons e l=>
  obtain⟨i1,i2⟩:=PY hr h l λx hx=>he x (List.mem_cons_of_mem _ hx);simp only[iH,Hu,pQ,args,List.append_assoc];exact he e List.mem_cons_self _ _ i2 i1
def hB(c:UInt8):Bool:=gb c||iD c||decide (c=40)||decide (c=45)||decide (c=33)
theorem PZ{l:Nat}{x:Kb}(h:∃c r,x.2=c::r/\hB c=true):∃c r,wb l x=c::r/\hB c=true:=by
 unfold wb;split;exact⟨_,_,rfl,by decide⟩;exact h
theorem JI{a b:List UInt8}(h:∃c r,a=c::r/\hB c=true):∃c r,a++b=c::r/\hB c=true:=by
 obtain⟨c,r,rfl,h⟩:=h;exact⟨c,r++b,rfl,h⟩
theorem P0{s:List UInt8}(h:kS s=true):∃c r,s=c::r/\hB c=true:=by
 obtain⟨c,r,rfl,h1,_⟩:=Fh h;exact⟨c,r,rfl,by simp[hB,h1]⟩
theorem anF(e:E):Gx Pn e->∃c r,jZ e=c::r/\hB c=true:=by
 induction e using E.xN with
 |_ e ih=>
  intro hw;obtain⟨hk,hn,hm,_,_,qI⟩:=(Fe e).1 hw;rw[nY]at qI;have hki:=tr hk;have hg:(e.k=5\/e.k=6\/14<=e.k)->∃c r,(b0 (iH e.ay)).2=c::r/\hB c=true:=λhc=>by
   have:∃a l,e.ay=a::l:=by
    by_cases h5:e.k=5;obtain⟨a,h⟩:=mD hk (.inl h5);exact⟨a,[],h⟩;obtain⟨⟨a,b,h⟩,_⟩:=wY hk (by omega);exact⟨a,[b],h⟩
   obtain⟨a,l,h⟩:=this;rw[h];exact ih a (by rw[h];exact List.mem_cons_self) (qI a (by rw[h];exact List.mem_cons_self))
  rw[Ff];unfold prO;by_cases c1:e.k=1;rw[if_pos c1];have h1:=hn c1;unfold WW;by_cases hz:e.n.toNat=0;rw[if_pos hz];exact⟨_,_,rfl,by decide⟩;rw[if_neg hz];obtain⟨a1,_,a3⟩:=HI e.n.toNat (by omega);obtain⟨c,l,e1,_⟩:=a3 hz;rw[e1]at a1 ⊢;exact⟨c,l,rfl,by simp[hB,a1 c List.mem_cons_self]⟩;rw[if_neg c1];by_cases c2:e.k=2;rw[if_pos c2];by_cases c:e.n=1;rw[if_pos c];exact⟨_,_,rfl,by decide⟩;rw[if_neg c];exact⟨_,_,rfl,by decide⟩;rw[if_neg c2];by_cases c3:e.k=3;rw[if_pos c3];exact⟨_,_,rfl,by decide⟩;rw[if_neg c3];by_cases c4:e.k=4;rw[if_pos c4];exact P0 (hm (by omega));rw[if_neg c4];by_cases c5:e.k=5;rw[if_pos c5];exact JI (PZ (hg (by omega)));rw[if_neg c5];by_cases c6:e.k=6;rw[if_pos c6];exact JI (PZ (hg (by omega)));rw[if_neg c6];by_cases c7:e.k=7;rw[if_pos c7];exact JI (P0 (hm (by omega)));rw[if_neg c7];by_cases c8:e.k=8;rw[if_pos c8];exact⟨_,_,rfl,by decide⟩;rw[if_neg c8];by_cases c9:e.k=9;rw[if_pos c9];exact⟨_,_,rfl,by decide⟩;rw[if_neg c9];by_cases vR:e.k=10;rw[if_pos vR];exact⟨_,_,rfl,by decide⟩;rw[if_neg vR];by_cases zl:e.k=11;rw[if_pos zl];exact⟨_,_,rfl,by decide⟩;rw[if_neg zl];by_cases AK:e.k=12;rw[if_pos AK];exact⟨_,_,rfl,by decide⟩;rw[if_neg AK];by_cases AM:e.k=13;rw[if_pos AM];exact⟨_,_,rfl,by decide⟩;rw[if_neg AM];exact JI (PZ (hg (by omega)))
theorem aeu{l r:List UInt8}{ts:List TS}(hh:∃c s,l=c::s/\hB c=true)(h:Lx (l++r) ts):Lx (33::(l++r)) (W [33]::ts):=by
 obtain⟨c,s,rfl,hc⟩:=hh;have iR:c.toNat≠61:=λe=>by
  have:c=61:=by apply UInt8.toNat_inj.1;exact e
  subst this;revert hc;decide
 refine aer (by decide) (by decide) (by decide) ?_ ?_ h;simp[pJ];have hm:zQ ((33::(c::s++r)).take 2) FQ=false:=by
  simp[FQ,zQ,eqB,lW];exact λe=>iR e.symm
 unfold sW;rw[hm,if_neg (by decide)]
 rfl
theorem ZS{k:Int}(h:14<=k)(h2:k<=24):iN k=[43]\/iN k=[45]\/iN k=[42]\/iN k=[47]\/iN k=[37]\/iN k=[60]\/iN k=[60,61]\/iN k=[61,61]\/iN k=[33,61]\/iN k=[38,38]\/iN k=[124,124]\/iN k=[61]:=by
 have:k=14\/k=15\/k=16\/k=17\/k=18\/k=19\/k=20\/k=21\/k=22\/k=23\/k=24:=by omega
 rcases this with rfl|rfl|rfl|rfl|rfl|rfl|rfl|rfl|rfl|rfl|rfl<;>decide
theorem anG(e:E):Gx Pn e->LX e:=by
 induction e using E.xN with
 |_ e ih=>
  intro hw r ts hr h;obtain⟨hk,hn,hm,ht,ht8,qI⟩:=(Fe e).1 hw;rw[nY]at qI;have hki:=tr hk;have pS:∀x∈e.ay,LX x:=λx hx=>ih x hx (qI x hx);rw[Ff,Cl];unfold prO uO;by_cases c1:e.k=1;rw[if_pos c1,if_pos c1];obtain⟨a,b⟩:=hn c1;exact aet a b hr h;rw[if_neg c1,if_neg c1];by_cases c2:e.k=2;rw[if_pos c2,if_pos c2];by_cases c:e.n=1;rw[if_pos c];exact iq (by decide) hr h;rw[if_neg c];exact iq (by decide) hr h;rw[if_neg c2,if_neg c2];by_cases c3:e.k=3;rw[if_pos c3,if_pos c3,List.append_assoc,List.cons_append];exact iq (by decide) (bT (by decide)) (jd (BB (ht (by omega)).1 hr h));rw[if_neg c3,if_neg c3];by_cases c4:e.k=4;rw[if_pos c4,if_pos c4];exact oe (hm (by omega)) hr h;rw[if_neg c4,if_neg c4];by_cases c5:e.k=5;rw[if_pos c5,if_pos c5];obtain⟨a,ha⟩:=mD hk (by omega);rw[ha,List.append_assoc,List.append_assoc];exact HJ (pS a (by rw[ha];simp)) (bT (by decide)) (cw (by decide) (oe (hm (by omega)) hr h));rw[if_neg c5,if_neg c5];by_cases c6:e.k=6;rw[if_pos c6,if_pos c6];obtain⟨⟨a,b,ha⟩,_⟩:=wY hk (by omega);rw[ha];simp only[List.append_assoc,List.cons_append,List.nil_append];exact HJ (pS a (by rw[ha];simp)) (bT (by decide)) (cw (by decide) (pS b (by rw[ha];simp) _ _ (bT (by decide)) (cw (by decide) h)));rw[if_neg c6,if_neg c6];by_cases c7:e.k=7;rw[if_pos c7,if_pos c7];simp only[List.append_assoc,List.cons_append,List.nil_append];exact oe (hm (by omega)) (bT (by decide)) (cw (by decide) (ZR (bT (by decide)) (cw (by decide) h) _ pS));rw[if_neg c7,if_neg c7];by_cases c8:e.k=8;rw[if_pos c8,if_pos c8];simp only[List.append_assoc,List.cons_append,List.nil_append];exact iq (by decide) (bT (by decide)) (jd (oe (ht8 c8).1 hr h));rw[if_neg c8,if_neg c8];by_cases c9:e.k=9;rw[if_pos c9,if_pos c9];obtain⟨a,ha⟩:=mD hk (by omega);rw[ha];simp only[List.append_assoc,List.cons_append,List.nil_append];exact iq (by decide) (bT (by decide)) (jd (cw (by decide) (BB (ht (by omega)).1 (bT (by decide)) (cw (by decide) (cw (by decide) (pS a (by rw[ha];simp) _ _ (bT (by decide)) (cw (by decide) h)))))));rw[if_neg c9,if_neg c9];by_cases vR:e.k=10;rw[if_pos vR,if_pos vR];obtain⟨a,ha⟩:=mD hk (by omega);rw[ha];simp only[List.append_assoc,List.cons_append,List.nil_append];exact iq (by decide) (bT (by decide)) (cw (by decide) (pS a (by rw[ha];simp) _ _ (bT (by decide)) (cw (by decide) h)));rw[if_neg vR,if_neg vR];by_cases zl:e.k=11;rw[if_pos zl,if_pos zl];simp only[List.append_assoc,List.cons_append,List.nil_append];exact iq (by decide) (bT (by decide)) (cw (by decide) (cw (by decide) h));rw[if_neg zl,if_neg zl];by_cases AK:e.k=12;rw[if_pos AK,if_pos AK];obtain⟨a,ha⟩:=mD hk (by omega);rw[ha];exact cw (by decide) (HJ (pS a (by rw[ha];simp)) hr h);rw[if_neg AK,if_neg AK];by_cases AM:e.k=13;rw[if_pos AM,if_pos AM];obtain⟨a,ha⟩:=mD hk (by omega);rw[ha];exact aeu (PZ (anF a (qI a (by rw[ha];simp)))) (HJ (pS a (by rw[ha];simp)) hr h);rw[if_neg AM,if_neg AM];obtain⟨⟨a,b,ha⟩,_⟩:=wY hk (by omega);rw[ha];simp only[List.append_assoc,List.cons_append];exact HJ (pS a (by rw[ha];simp)) (bT (by decide)) (jd (abk (ZS (by omega) (by omega)) (HJ (pS b (by rw[ha];simp)) hr h)))
end Lx
namespace Lx
open Ax Go V7 lf mG wU U2 N7 RJ Sb
theorem JJ{r:List UInt8}{ts:List TS}(h:Lx r ts)(d:Nat):Lx (Bz d++r) ts:=by
 unfold Bz;generalize 2*d=k;induction k with
 |zero=>exact h|succ k ih=>
  rw[List.replicate_succ,List.cons_append];exact jd ih
theorem Wc{r:List UInt8}{ts:List TS}(h:Lx r ts):Lx (32::61::32::r) (W [61]::ts):=jd (abk (s:=[61]) (by simp) h)
def LS(s:Sm):Prop:=∀(d:Nat)(r:List UInt8)(ts:List TS),Lx r ts->Lx (Sc d s++r) (uS s++ts)
theorem ZT:∀(l:List Sm),(∀s∈l,LS s)->∀(d:Nat)(r:List UInt8)(ts:List TS),Lx r ts->Lx (AD d l++r) (uB l++ts)
 |[],_,_,_,_,h=>h|s::l,hl,d,r,ts,h=>by
  have ih:=ZT l (λx hx=>hl x (List.mem_cons_of_mem _ hx)) d r ts h;simp only[AD,uB,List.append_assoc,List.cons_append];exact JJ (hl s List.mem_cons_self d _ _ (yD ih)) d
theorem anH(s:Sm):Sa Pn s->LS s:=by
 refine Sm.xN (P:=λs=>Sa Pn s->LS s) (λs ib ie hw d r ts h=>?_) s;obtain⟨k1,k2,h3,h4,h5,h6,h7,h8,h9,zf⟩:=(nh s).1 hw;rw[nZ]at h9 zf;rw[nY]at h6;have hb:=ZT s.bd λx hx=>ib x hx (h9 x hx);have he:=ZT s.el λx hx=>ie x hx (zf x hx);have hX:∀x∈s.es,LX x:=λx hx=>anG x (h6 x hx);obtain⟨e1,e2,e4,e7,e9⟩:=h5;rw[NS,V2];unfold sB sO;by_cases c1:s.k=1;obtain⟨g1,g2,_⟩:=h3 (by omega);rw[if_pos c1,if_pos c1];simp only[List.append_assoc,List.cons_append,List.nil_append];exact iq (by decide) (bT (by decide)) (jd (oe g1 (bT (by decide)) (cw (by decide) (jd (BB g2 (bT (by decide)) (cw (by decide) h))))));rw[if_neg c1,if_neg c1];by_cases c2:s.k=2;obtain⟨g1,g2,_⟩:=h3 (by omega);obtain⟨x,hx⟩:=e2 (by omega);rw[if_pos c2,if_pos c2,hx];simp only[List.append_assoc,List.cons_append,List.nil_append];exact iq (by decide) (bT (by decide)) (jd (oe g1 (bT (by decide)) (cw (by decide) (jd (BB g2 (bT (by decide)) (Wc (hX x (by rw[hx];simp) _ _ (bT (by decide)) (cw (by decide) h))))))));rw[if_neg c2,if_neg c2];by_cases c3:s.k=3;obtain⟨x,hx⟩:=e2 (by omega);rw[if_pos c3,if_pos c3,hx];simp only[List.append_assoc,List.cons_append,List.nil_append];exact oe (h4 c3) (bT (by decide)) (Wc (hX x (by rw[hx];simp) _ _ (bT (by decide)) (cw (by decide) h)));rw[if_neg c3,if_neg c3];by_cases c4:s.k=4;obtain⟨x,y,hx,_⟩:=e4 c4;rw[if_pos c4,if_pos c4,hx];simp only[List.append_assoc,List.cons_append,List.nil_append];exact hX x (by rw[hx];simp) _ _ (bT (by decide)) (Wc (hX y (by rw[hx];simp) _ _ (bT (by decide)) (cw (by decide) h)));rw[if_neg c4,if_neg c4];by_cases c5:s.k=5;obtain⟨x,hx⟩:=e2 (by omega);rw[if_pos c5,if_pos c5,hx];simp only[List.append_assoc,List.cons_append];refine iq (by decide) (bT (by decide)) (jd (hX x (by rw[hx];simp) _ _ (bT (by decide)) (jd (cw (by decide) (yD (hb _ _ _ (JJ (cw (by decide) ?_) d)))))));cases s.el.isEmpty with
 |true=>exact h|false=>
  simp only[Bool.false_eq_true,if_false,List.append_assoc,List.cons_append,List.nil_append];exact jd (iq (by decide) (bT (by decide)) (jd (cw (by decide) (yD (he _ _ _ (JJ (cw (by decide) h) d))))))
 rw[if_neg c5,if_neg c5];by_cases c6:s.k=6;obtain⟨x,hx⟩:=e2 (by omega);rw[if_pos c6,if_pos c6,hx];simp only[List.append_assoc,List.cons_append,List.nil_append];exact iq (by decide) (bT (by decide)) (jd (hX x (by rw[hx];simp) _ _ (bT (by decide)) (jd (cw (by decide) (yD (hb _ _ _ (JJ (cw (by decide) h) d)))))));rw[if_neg c6,if_neg c6];by_cases c7:s.k=7;rw[if_pos c7,if_pos c7];rcases e7 c7 with hx|⟨x,hx⟩;rw[hx];simp only[List.isEmpty_nil,if_true,List.append_assoc,List.cons_append,List.nil_append,x0];exact iq (by decide) (bT (by decide)) (cw (by decide) h);rw[hx];simp only[List.isEmpty_cons,Bool.false_eq_true,if_false,List.append_assoc,List.cons_append,List.nil_append];exact iq (by decide) (bT (by decide)) (jd (hX x (by rw[hx];simp) _ _ (bT (by decide)) (cw (by decide) h)));rw[if_neg c7,if_neg c7];by_cases c8:s.k=8;obtain⟨x,hx⟩:=e2 (by omega);rw[if_pos c8,if_pos c8,hx];simp only[List.append_assoc,List.cons_append,List.nil_append];exact iq (by decide) (bT (by decide)) (jd (hX x (by rw[hx];simp) _ _ (bT (by decide)) (cw (by decide) h)));rw[if_neg c8,if_neg c8];obtain⟨x,hx,_⟩:=e9 (by omega);rw[hx];simp only[List.append_assoc,List.cons_append,List.nil_append];exact hX x (by rw[hx];simp) _ _ (bT (by decide)) (cw (by decide) h)
theorem ZU{p:PD}(hp:JE Pn p){r:List UInt8}{ts:List TS}(hr:NA r)(h:Lx r ts):Lx (Di p++r) (pT p++ts):=by
 unfold Di pT;simp only[List.append_assoc,List.cons_append];exact oe hp.name (bT (by decide)) (cw (by decide) (jd (BB hp.ty hr h)))
theorem Wd{r:List UInt8}{ts:List TS}(h:Lx r ts):∀l:List PD,(∀p∈l,JE Pn p)->Lx (AE l++r) (fT l++ts)
 |[],_=>h|p::l,hl=>by
  have ih:=Wd h l λx hx=>hl x (List.mem_cons_of_mem _ hx);simp only[AE,fT,List.append_assoc,List.cons_append];exact jd (jd (ZU (hl p List.mem_cons_self) (bT (by decide)) (cw (by decide) (yD ih))))
theorem anI{c:Rc}(hc:GxR Pn c){r:List UInt8}{ts:List TS}(h:Lx r ts):Lx (PV c++r) (CJ c++ts):=by
 unfold PV CJ;simp only[List.append_assoc,List.cons_append,List.nil_append];exact iq (by decide) (bT (by decide)) (jd (oe hc.name (bT (by decide)) (jd (cw (by decide) (yD (Wd (cw (by decide) (yD h)) _ hc.f))))))
theorem anJ{p:PD}(hp:JE Pn p){r:List UInt8}{ts:List TS}(h:Lx r ts):Lx (Sd p++r) (wZ p++ts):=by
 unfold Sd wZ;simp only[List.append_assoc,List.cons_append,List.nil_append];exact iq (by decide) (bT (by decide)) (jd (ZU hp (bT (by decide)) (cw (by decide) (yD h))))
theorem We{r:List UInt8}{ts:List TS}(hr:NA r)(h:Lx r ts):∀l:List PD,(∀p∈l,JE Pn p)->Lx (BA l++r) (RD l++ts)/\NA (BA l++r)
 |[],_=>⟨h,hr⟩
 |p::l,hl=>by
  obtain⟨i1,i2⟩:=We hr h l λx hx=>hl x (List.mem_cons_of_mem _ hx);simp only[BA,RD,List.append_assoc,List.cons_append];exact⟨cw (by decide) (jd (ZU (hl p List.mem_cons_self) i2 i1)),bT (by decide)⟩
theorem ZV{r:List UInt8}{ts:List TS}(hr:NA r)(h:Lx r ts)(l:List PD)(hl:∀p∈l,JE Pn p):Lx (rY l++r) (rX l++ts):=by
 cases l with
 |nil=>exact h|cons p l=>
  obtain⟨i1,i2⟩:=We hr h l λx hx=>hl x (List.mem_cons_of_mem _ hx);simp only[rY,rX,List.append_assoc];exact ZU (hl p List.mem_cons_self) i2 i1
theorem anK{f:Fc}(hf:GxF Pn f){r:List UInt8}{ts:List TS}(h:Lx r ts):Lx (Se f++r) (CL f++ts):=by
 have hb:=ZT f.body λs hs=>anH s ((nZ _).1 hf.body s hs);unfold Se CL;simp only[List.append_assoc,List.cons_append,List.nil_append];refine iq (by decide) (bT (by decide)) (jd (oe hf.name (bT (by decide)) (cw (by decide) (ZV (bT (by decide)) (cw (by decide) ?_) _ hf.p))));have tail:=jd (cw (c:=123) (by decide) (yD (hb 1 _ _ (cw (c:=125) (by decide) (yD h)))));cases e:f.ct with
 |false=>exact tail|true=>
  simp only[if_true,List.cons_append];exact cw (by decide) (jd (BB (hf.res e).1 (bT (by decide)) tail))
theorem Dj{α:Type}{g:α->List UInt8}{t:α->List TS}{r:List UInt8}{ts:List TS}(h:Lx r ts):∀l:List α,(∀x∈l,∀r ts,Lx r ts->Lx (g x++r) (t x++ts))->Lx (mw g l++r) (ju t l++ts)
 |[],_=>h|x::l,hl=>by
  have ih:=Dj h l λy hy=>hl y (List.mem_cons_of_mem _ hy);simp only[mw,ju,List.append_assoc];exact hl x List.mem_cons_self _ _ ih
theorem anL{p:Pg}(hp:Wb Pn p):Lx (RL p) (uP p++[(0,[],0)]):=by
 have h:=Dj (g:=PV) (t:=CJ) (Dj (g:=Sd) (t:=wZ) (Dj (g:=Se) (t:=CL) aeq p.funcs λx hx r ts h=>anK (hp.f x hx) h) p.aH λx hx r ts h=>anJ (hp.g x hx) h) p.bz λx hx r ts h=>anI (hp.r x hx) h;unfold RL uP;simpa only [List.append_assoc,List.append_nil] using h
theorem NV{p q:Pg}{e a:Int}(hp:Wb Pn p)(h:lQ (RL p)=(q,e,a))(he:e=0):Jy q=Jy p:=by
 obtain⟨rows,h1,h2⟩:=anL hp 0 ((RL p).length+1) (Nat.le_refl _);rw[Nat.zero_add]at h1;have ht:CE (RL p)=(rows,none):=h1;unfold lQ at h;by_cases hl:(RL p).length<=6000;rw[if_pos hl,ht]at h;simp only at h;obtain⟨x,hx⟩:=pK (mI rows);rw[hx,Option.getD_some]at h;have hm:(mI rows).map Av=uP p++[(0,[],0)]:=by
  rw[<-h2,mI,List.map_map];exact List.map_congr_left λr _=>rfl
 obtain⟨a1,a2⟩:=V4 hx hp.wf (.inl (by rw[h];exact he)) (PW (by rw[List.drop_zero];exact hm));rw[h]at a2;exact a2;rw[if_neg hl]at h;cases h;cases he
end Lx
