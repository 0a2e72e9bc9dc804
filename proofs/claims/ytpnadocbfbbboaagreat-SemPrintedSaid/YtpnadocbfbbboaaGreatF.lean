/- Part of a proof. -/
import Derived.Test.YtpnadocbfbbboaaGreatV
import Derived.Test.YtpnadocbfbbboaaGreatL
import Derived.Test.YtpnadocbfbbboaaGreatX

set_option maxRecDepth 100000
set_option maxHeartbeats 8000000
namespace P6
open Ax Go bX V7 lf mG wU Sb
theorem oY{a b:List UInt8}(h:a.length+b.length<=4611686018427387904):iT .add (.str a) (.str b)=some (.str (a++b)):=by rw[dM,if_pos h]
theorem Fl:∀(k n:Nat),n<10 ^ k->(qc n).length<=k
 |0,n,h=>by
  have:n=0:=by simpa using h
  subst this;rw[qc];simp
 |k+1,n,h=>by
  by_cases h0:n=0;subst h0;rw[qc];simp;rw[qc,if_neg h0,List.length_append,List.length_singleton];have:=Fl k (n / 10) (by rw[Nat.pow_succ]at h;omega);omega
theorem Z3(wl J:Nat)(n:Nat)(hn:n<9223372036854775808)(st:ai):(aT S).call wl J 86 [.int .i64 n] st=some (.str (WW n),st):=by
 refine bn (sf:=s86) rfl rfl (by simp) rfl (by simp) ?_;have hlen:(qc n).length<=19:=Fl 19 n (by omega);by_cases h0:n=0;subst h0;simp[s86,WW];have hd:WW n=qc n:=if_neg h0;rw[hd];simp[s86,h0];refine bu Up.eq_1 (λq:Nat×List UInt8=>⟨[(0,.val (.int .i64 n)),(3,.val (.str q.2)),(4,.val (.int .i64 q.1))],[],[]⟩)
  (λq=>q.1<=n/\qc q.1++q.2=qc n) (λq=>q.1) (n,[]) rfl ⟨Nat.le_refl _,by simp⟩ ?_
 rintro⟨m,s⟩ ⟨h1,h2⟩ ih;simp only at h1 h2 ih ⊢;by_cases hm:m=0;subst hm;have e:qc 0=[]:=by rw[qc];rfl
 rw[e,List.nil_append]at h2;have Qr:¬(n:Int)<0:=by omega
 simp[h2,Qr];have ht:Int.tmod (m:Int) 10=((m % 10:Nat):Int):=by rw[Int.tmod_eq_emod_of_nonneg (by omega)];omega
 have hq:Int.tdiv (m:Int) 10=((m / 10:Nat):Int):=by rw[Int.tdiv_eq_ediv_of_nonneg (by omega)];omega
 have bw:¬((m % 10:Nat):Int)<0:=by omega
 have dw:s.length<=19:=by have:=congrArg List.length h2;simp at this;omega
 have hw:IntKind.i64.wrap (48+((m % 10:Nat):Int))=48+((m % 10:Nat):Int):=by rw[dn]<;>omega
 have GP:IntKind.i64.wrap ((m:Int) / 10)=((m / 10:Nat):Int):=by rw[dn]<;>omega
 have hb:∀(r:List (List AV)),r=[[AV.int .u8 (IntKind.u8.wrap (48+((m % 10:Nat):Int)))]]->oZ r=some [UInt8.ofNat (48+m % 10)]:=by
  have:∀k,k<10->oZ [[AV.int .u8 (IntKind.u8.wrap (48+(k:Nat)))]]=some [UInt8.ofNat (48+k)]:=by
   intro k hk;have:k=0\/k=1\/k=2\/k=3\/k=4\/k=5\/k=6\/k=7\/k=8\/k=9:=by omega
   rcases this with rfl|rfl|rfl|rfl|rfl|rfl|rfl|rfl|rfl|rfl<;>rfl
  intro r hr;rw[hr];exact this _ (by omega)
 have anM:iT .add (.str [UInt8.ofNat (48+m % 10)]) (.str s)=some (.str (UInt8.ofNat (48+m % 10)::s)):=by rw[oY (by simp;omega)];rfl
 have Su:qc (m / 10)++UInt8.ofNat (48+m % 10)::s=qc n:=by
  rw[<-h2];conv=>rhs;rw[qc,if_neg hm]
  rw[List.append_assoc];rfl
 have hb2:=hb _ rfl;clear hb;generalize hk:m % 10=k at *;have nB:=ih (m / 10,UInt8.ofNat (48+k)::s) ⟨by omega,Su⟩ (by simp only;omega);simp[hm,-dM,ht,hq,bw,hw,GP,anM,hb2,-UInt8.ofNat_add];exact nB
end P6
namespace P6
open Ax Go bX V7 lf mG wU Sb RJ Lx
theorem jY{s:List UInt8}(h:Pn s):s.length<=8:=by
 have h':U2.kS s=true:=h;unfold U2.kS at h';split at h';cases h';simp only[Bool.and_eq_true,Nat.ble_eq]at h';exact h'.1.1.1
theorem qf{s:List UInt8}(h:CM Pn s):s.length<=8:=by
 rcases h with rfl|rfl|h
 decide
 decide
 exact jY h
theorem mh{on:List UInt8}{od:Int}(h:on.length<=8)(h3:od<=3):(yC on od).length<=14:=by
 unfold yC;simp only[List.length_append,List.length_replicate];omega
theorem mQ(wl J:Nat)(on:List UInt8)(od:Int)(h:on.length<=8)(h0:0<=od)(h3:od<=3)(st:ai):(aT S).call wl J 37 [.agg [.str on,.int .i64 od]] st=some (.str (yC on od),st):=by
 obtain⟨n,rfl⟩:∃n:Nat,od=n:=⟨od.toNat,by omega⟩;refine bn (sf:=s37) rfl rfl (by simp) rfl (by simp) ?_;simp[s37];refine bu T1.eq_1 (λk:Nat=>⟨[(1,.fp 0 0),(3,.val (.str (yC on k))),(4,.val (.int .i64 k))],[[.str on,.int .i64 n]],[]⟩)
  (λk=>k<=n) (λk=>n-k) 0 (by simp[yC]) (by omega) ?_
 intro k hk ih;by_cases bw:k<n;have hw:=wk k (by omega);have hl:=mh (od:=(k:Int)) h (by omega);have e:[91]++yC on k++[93]=yC on ((k+1:Nat):Int):=by
  unfold yC;rw[Int.toNat_natCast,Int.toNat_natCast,List.replicate_succ,List.replicate_succ'];simp
 have c1:iT .add (.str [91]) (.str (yC on k))=some (.str ([91]++yC on k)):=oY (by simp;omega);have c2:iT .add (.str ([91]++yC on k)) (.str [93])=some (.str (yC on ((k+1:Nat):Int))):=by rw[oY (by simp;omega),e]
 simp only[List.cons_append,List.nil_append]at c1 c2;have nB:=ih (k+1) (by omega) (by omega);generalize yC on ((k+1:Nat):Int)=Z at *;simp[bw,-dM,c1,c2,hw];exact nB;have:k=n:=by omega
 subst this;simp
theorem wN(wl J:Nat)(e:E)(st:ai):(aT S).call wl J 88 [.agg e.aG] st=some (.int .i64 (iG e.k),st):=by
 refine bn (sf:=s88) rfl rfl (by rw[E.aB];simp) rfl (by simp) ?_;rw[E.aB];generalize e.k=k;by_cases c:k=24\/k=23\/k=19\/k=20\/k=21\/k=22\/k=14\/k=15\/k=16\/k=17\/k=18\/k=12\/k=13;rcases c with rfl|rfl|rfl|rfl|rfl|rfl|rfl|rfl|rfl|rfl|rfl|rfl|rfl<;>simp[s88,iG];simp only[not_or]at c;obtain⟨c1,c2,c3,c4,c5,c6,c7,c8,c9,vR,zl,AK,AM⟩:=c;have hl:iG k=7:=by
  unfold iG;rw[if_neg c1,if_neg c2,if_neg (by omega),if_neg (by omega),if_neg (by omega),if_neg (by omega)]
 rw[hl];simp[s88,c1,c2,c3,c4,c5,c6,c7,c8,c9,vR,zl,AK,AM]
theorem IC(wl J:Nat)(k:Int)(h:14<=k)(h2:k<=24)(st:ai):(aT S).call wl J 89 [.int .i64 k] st=some (.str (iN k),st):=by
 refine bn (sf:=s89) rfl rfl (by simp) rfl (by simp) ?_;have:k=14\/k=15\/k=16\/k=17\/k=18\/k=19\/k=20\/k=21\/k=22\/k=23\/k=24:=by omega
 have w:∀n:Int,0<=n->n<=10->IntKind.i64.wrap n=n:=λn _ _=>by rw[dn]<;>omega
 rcases this with rfl|rfl|rfl|rfl|rfl|rfl|rfl|rfl|rfl|rfl|rfl<;>simp[s89,iN,w]
theorem rR(wl J:Nat)(p:PD)(h:JE Pn p)(st:ai):(aT S).call wl J 36 [.agg p.cells] st=some (.str (Di p),st):=by
 have hn:=jY h.name;have ho:=qf h.ty;obtain⟨o1,o2⟩:=h.od;have ht:=λwl J st=>mQ wl J p.on p.od ho o1 o2 st;have hl:=mh ho o2;refine bn (sf:=s36) rfl rfl (by simp[PD.cells]) rfl (by simp) ?_;have c1:iT .add (.str p.name) (.str [58,32])=some (.str (p.name++[58,32])):=oY (by simp;omega);have c2:iT .add (.str (p.name++[58,32])) (.str (yC p.on p.od))=some (.str (Di p)):=by rw[oY (by simp;omega)];simp[Di]
 simp[s36,PD.cells,-dM,c1,c2,ht,aF,aC]
end P6
namespace P6
open Ax Go bX V7 lf mG wU Sb RJ Lx
theorem tS(l:Nat)(x:Kb):(wb l x).length<=x.2.length+2:=by
 unfold wb;split;simp;omega
theorem L9:∀l:List E,(∀e∈l,(jZ e).length+4<=60*E.sz e)->(By (iH l)).length<=60*E.ey l
 |[],_=>by simp[iH,By]|e::l,h=>by
  have h1:=h e List.mem_cons_self;have h2:=L9 l λx hx=>h x (List.mem_cons_of_mem _ hx);simp only[iH,By,List.length_cons,List.length_append,E.ey];omega
theorem BG(l:List E)(h:∀e∈l,(jZ e).length+4<=60*E.sz e):(pQ (iH l)).length<=60*E.ey l:=by
 cases l with
 |nil=>simp[iH,pQ]|cons e l=>
  have h1:=h e List.mem_cons_self;have h2:=L9 l λx hx=>h x (List.mem_cons_of_mem _ hx);simp only[iH,pQ,List.length_append,E.ey];omega
theorem Ma(k:Int):(iN k).length<=2:=by
 unfold iN;repeat' split
 all_goals decide
theorem aev{n:Int}(h:n<9223372036854775808):(WW n.toNat).length<=19:=by
 unfold WW;split
 decide
 exact Fl 19 _ (by omega)
theorem Wl(e:E):Gx Pn e->(jZ e).length+4<=60*E.sz e:=by
 induction e using E.xN with
 |_ e ih=>
  intro hw;obtain⟨hk,hn,hm,ht,ht8,qI⟩:=(Fe e).1 hw;rw[nY]at qI;have hki:=tr hk;have pS:∀x∈e.ay,(jZ x).length+4<=60*E.sz x:=λx hx=>ih x hx (qI x hx);have h0:(b0 (iH e.ay)).2.length<=60*E.ey e.ay/\(b1 (iH e.ay)).2.length<=60*E.ey e.ay/\(b0 (iH e.ay)).2.length+(b1 (iH e.ay)).2.length<=60*E.ey e.ay:=by
   cases hq:e.ay with
   |nil=>simp[iH,b0,b1]|cons a l=>
    rw[hq]at pS;have h1:=pS a List.mem_cons_self;cases l with
    |nil=>
     simp only[iH,b0,b1,E.ey,List.length_nil];omega
    |cons b l=>
     have h2:=pS b (List.mem_cons_of_mem _ List.mem_cons_self);simp only[iH,b0,b1,E.ey];omega
  have ha:=BG e.ay pS;have w0:=tS 7 (b0 (iH e.ay));have w6:=tS 6 (b0 (iH e.ay));have wl:=tS (iG e.k) (b0 (iH e.ay));have wr:=tS (iG e.k+1) (b1 (iH e.ay));have sl:=Ma e.k;rw[Ff,E.vp];unfold prO;by_cases c1:e.k=1;rw[if_pos c1];have:=aev (hn c1).2;omega;rw[if_neg c1];by_cases c2:e.k=2;rw[if_pos c2];have:(if e.n=1 then Ci else wV).length<=5:=by split<;>decide
  omega;rw[if_neg c2];by_cases c3:e.k=3;rw[if_pos c3];obtain⟨g1,g2,g3⟩:=ht (by omega);have:=mh (qf g1) g3;simp only[List.length_append,List.length_cons,Cj,List.length_nil];omega;rw[if_neg c3];by_cases c4:e.k=4;rw[if_pos c4];have:=jY (hm (by omega));omega;rw[if_neg c4];by_cases c5:e.k=5;rw[if_pos c5];have:=jY (hm (by omega));simp only[List.length_append,List.length_cons];omega;rw[if_neg c5];by_cases c6:e.k=6;rw[if_pos c6];simp only[List.length_append,List.length_cons,List.length_nil];omega;rw[if_neg c6];by_cases c7:e.k=7;rw[if_pos c7];have:=jY (hm (by omega));simp only[List.length_append,List.length_cons,List.length_nil];omega;rw[if_neg c7];by_cases c8:e.k=8;rw[if_pos c8];have:=jY (ht8 c8).1;simp only[List.length_append,List.length_cons,tR,List.length_nil];omega;rw[if_neg c8];by_cases c9:e.k=9;rw[if_pos c9];obtain⟨g1,g2,g3⟩:=ht (by omega);have:=mh (qf g1) g3;simp only[List.length_append,List.length_cons,tR,List.length_nil];omega;rw[if_neg c9];by_cases vR:e.k=10;rw[if_pos vR];simp only[List.length_append,List.length_cons,Fa,List.length_nil];omega;rw[if_neg vR];by_cases zl:e.k=11;rw[if_pos zl];simp only[List.length_append,List.length_cons,Ck,List.length_nil];omega;rw[if_neg zl];by_cases AK:e.k=12;rw[if_pos AK];simp only[List.length_cons];omega;rw[if_neg AK];by_cases AM:e.k=13;rw[if_pos AM];simp only[List.length_cons];omega;rw[if_neg AM];simp only[List.length_append,List.length_cons];omega
def AO(e:E):Prop:=∀(wl J:Nat)(st:ai),(aT S).call wl J 57 [.agg e.aG] st=some (.str (jZ e),st)
theorem qU(wl J:Nat){e:E}(h:AO e)(hl:(jZ e).length<=1000000000)(l:Nat)(st:ai):(aT S).call wl J 87 [.agg e.aG,.int .i64 l] st=some (.str (wb l (iG e.k,jZ e)),st):=by
 have hv:=λwl J st=>wN wl J e st;have hx:=h;unfold AO at hx;refine bn (sf:=s87) rfl rfl (by rw[E.aB];simp) rfl (by simp) ?_;rw[E.aB]at hv hx ⊢;have c1:iT .add (.str [40]) (.str (jZ e))=some (.str (40::jZ e)):=by rw[oY (by simp;omega)];rfl
 have c2:iT .add (.str (40::jZ e)) (.str [41])=some (.str (40::(jZ e++[41]))):=by rw[oY (by simp;omega)];rfl
 unfold wb;by_cases c:iG e.k<l;rw[if_pos (show (iG e.k,jZ e).1<l from c)];simp[s87,hv,hx,c,-dM,c1,c2];rw[if_neg (show ¬(iG e.k,jZ e).1<l from c)];simp[s87,hv,hx,c]
end P6
namespace P6
open Ax Go bX V7 lf mG wU Sb RJ Lx
theorem uC(a:E):bf [a]=.dc 11 [a.aG]:=by rw[K8];simp[E.rows]
theorem P8(a b:E):bf [a,b]=.dc 11 [a.aG,b.aG]:=by rw[K8];simp[E.rows]
theorem jC{a b c:List UInt8}(h:a.length+b.length<=4611686018427387904)(e:a++b=c):iT .add (.str a) (.str b)=some (.str c):=by rw[oY h,e]
theorem Z4(e:E)(c7:e.k=7)(hn:e.nm.length<=8)(hk:∀x∈e.ay,AO x)(hl:∀x∈e.ay,(jZ x).length+4<=60*E.sz x)(hs:E.ey e.ay<=1000000):AO e:=by
 intro wl J st;have hpr:jZ e=e.nm++40::(pQ (iH e.ay)++[41]):=by rw[Ff,c7];rfl
 have hN:=E.fo e.ay;have hz:dg 11 (bf e.ay)=true:=by
  unfold bf;cases e.ay with
  |nil=>rfl|cons a l=>
   simp[dg,bV,aK,cC,E.rows,gd,AV.aa];exact⟨by rw[E.aB];rfl,λx _=>by rw[E.aB];rfl⟩
 rw[hpr];refine bn (sf:=JR) rfl rfl (by rw[E.aB];simp) rfl (by simp) ?_;rw[E.aB,c7];have c1:iT .add (.str e.nm) (.str [40])=some (.str (e.nm++[40])):=oY (by simp;omega);have dw:aR (bf e.ay)=true:=bP;have gn:(bf e.ay).aa=bf e.ay:=bS;have eM:bg (bf e.ay)=E.rows e.ay:=aZ;have pE:(E.rows e.ay).length=e.ay.length:=by simp[gd]
 generalize bf e.ay=lv at *;obtain⟨F,hF⟩:∃F:Nat->List UInt8,∀k,F k=e.nm++40::pQ (iH (e.ay.take k)):=⟨_,λ_=>rfl⟩;simp[JR,-dM,c1,dw];refine bu Ub.eq_1 (λk:Nat=>⟨[(1,.fp 0 0),(3,.val (.str (F k))),(4,.val (.int .i64 k))],[[.int .i64 7,.int .i64 e.n,.str e.nm,.str e.on,.int .i64 e.od,lv,.int .i64 e.a,.int .i64 e.ty.b,.int .i64 e.ty.r,.int .i64 e.ty.d,.int .i64 e.ref]],[]⟩)
  (λk=>k<=e.ay.length) (λk=>e.ay.length-k) 0 (by simp[hF,iH,pQ]) (by omega) ?_
 intro k se ih;by_cases bw:k<e.ay.length;have hw:=wk k (by omega);have hm:=List.getElem_mem bw;have hx:=hk _ hm;unfold AO at hx;have Wm:=hl _ hm;have arU:=E.cR hm;have hlen:=BG (e.ay.take k) λx hx=>hl x (List.mem_of_mem_take hx);have anO:∀(n:Nat) (l:List E),E.ey (l.take n)<=E.ey l:=by
  intro n;induction n with
  |zero=>intro l;simp[E.ey]|succ n ih=>intro l;cases l with
   |nil=>simp|cons a l=>simp only[List.take_succ_cons,E.ey];have:=ih l;omega
 have gi:=anO k e.ay;have aew:∀(l:List E) (x:E),By (iH (l++[x]))=By (iH l)++44::32::jZ x:=by
  intro l x;induction l with
  |nil=>simp[iH,By]|cons a l ih=>simp[iH,By,ih]
 have kH:pQ (iH (e.ay.take (k+1)))=(if 0<k then pQ (iH (e.ay.take k))++[44,32] else pQ (iH (e.ay.take k)))++jZ e.ay[k]:=by
  rw[List.take_succ_eq_append_getElem bw];cases hq:e.ay.take k with
  |nil=>
   have:k=0:=by
    rcases List.take_eq_nil_iff.1 hq with h|h;exact h;rw[h]at bw;simp at bw
   subst this;simp[iH,pQ,By]
  |cons a l=>
   have:0<k:=by
    rcases Nat.eq_zero_or_pos k with h0|h0;subst h0;simp at hq;exact h0
   rw[if_pos this];simp only[List.cons_append,iH,pQ,aew,List.append_assoc]
   rfl
 have nB:=ih (k+1) (by omega) (by omega);rw[hF,kH]at nB;rw[hF];rw[E.aB]at hx;have yc:(E.rows e.ay)[k]?=some e.ay[k].aG:=by rw[gd];simp[bw]
 generalize pQ (iH (e.ay.take k))=A at *;generalize hy:e.ay[k]=y at *;rw[E.aB]at yc;have aiS:∀h:k<(E.rows e.ay).length,(E.rows e.ay)[k]=y.aG:=λh=>by
  have:=List.getElem?_eq_getElem h;rw[yc]at this;rw[E.aB];exact(Option.some.inj this).symm
 have vV:=E.aB y;have hA:(e.nm++40::A).length<=100000000:=by simp;omega
 by_cases h0:0<k;rw[if_pos h0]at nB;have c2:iT .add (.str (e.nm++40::A)) (.str [44,32])=some (.str (e.nm++40::(A++[44,32]))):=jC (by simp;omega) (by simp);have c3:iT .add (.str (e.nm++40::(A++[44,32]))) (.str (jZ y))=some (.str (e.nm++40::(A++[44,32]++jZ y))):=jC (by simp;omega) (by simp);simp[dw,gn,eM,pE,hz,bw,h0,-dM,c2,aiS,vV,hx,c3,hw];simp only[List.append_assoc,List.cons_append,List.nil_append]at nB;exact fC.2 nB;rw[if_neg h0]at nB;have c3:iT .add (.str (e.nm++40::A)) (.str (jZ y))=some (.str (e.nm++40::(A++jZ y))):=jC (by simp;omega) (by simp);simp[dw,gn,eM,pE,hz,bw,h0,-dM,aiS,vV,hx,c3,hw];exact fC.2 nB;have j8:k=e.ay.length:=by omega
 subst j8;rw[hF,List.take_length];have hlen:=BG e.ay hl;have c4:iT .add (.str (e.nm++40::pQ (iH e.ay))) (.str [41])=some (.str (e.nm++40::(pQ (iH e.ay)++[41]))):=jC (by simp;omega) (by simp);simp[dw,gn,eM,pE,-dM,c4]
theorem jH(e:E):Gx Pn e->E.sz e<=1000000->AO e:=by
 induction e using E.xN with
 |_ e ih=>
  intro hw eI;obtain⟨hk,hn,hm,ht,ht8,qI⟩:=(Fe e).1 hw;rw[nY]at qI;rw[E.vp]at eI;have hki:=tr hk;have pS:∀x∈e.ay,AO x:=λx hx=>ih x hx (qI x hx) (by have:=E.cR hx;omega);have hlen:∀x∈e.ay,(jZ x).length+4<=60*E.sz x:=λx hx=>Wl x (qI x hx);by_cases c7:e.k=7;exact Z4 e c7 (jY (hm (by omega))) pS hlen (by omega);intro wl J st;have hpr:=Ff e;rw[hpr];refine bn (sf:=JR) rfl rfl (by rw[E.aB];simp) rfl (by simp) ?_;rw[E.aB];unfold prO;by_cases c1:e.k=1;rw[if_pos c1,c1];obtain⟨n1,n2⟩:=hn c1;obtain⟨m,hm⟩:∃m:Nat,e.n=m:=⟨e.n.toNat,by omega⟩;rw[hm,Int.toNat_natCast];have tx:=λwl J st=>Z3 wl J m (by omega) st;simp[JR,tx];rw[if_neg c1];by_cases c2:e.k=2;rw[if_pos c2,c2];by_cases c:e.n=1;rw[if_pos c,c];simp[JR,Ci];rw[if_neg c];simp[JR,c,wV];rw[if_neg c2];by_cases c3:e.k=3;obtain⟨g1,g2,g3⟩:=ht (by omega);have ho:=qf g1;have ty:=λwl J st=>mQ wl J e.on e.od ho g2 g3 st;have tl:=mh ho g3;have k1:iT .add (.str [110,117,108,108,32]) (.str (yC e.on e.od))=some (.str (Cj++32::yC e.on e.od)):=jC (by simp;omega) rfl;rw[if_pos c3,c3];simp[JR,ty,-dM,k1];rw[if_neg c3];by_cases c4:e.k=4;rw[if_pos c4,c4];simp[JR];rw[if_neg c4];by_cases c5:e.k=5;obtain⟨a,ha⟩:=mD hk (by omega);have hnm:=jY (hm (by omega));have am:a∈e.ay:=by rw[ha];simp
  have sd:=hlen a am;have hsa:=E.cR am;have wa:∀(wl J:Nat) (st:ai),(aT S).call wl J 87 [.agg a.aG,.int .i64 7] st=some (.str (wb 7 (iG a.k,jZ a)),st):=λwl J st=>qU wl J (pS a am) (by omega) 7 st;have Z6:=tS 7 (iG a.k,jZ a);rw[if_pos c5,c5,ha,uC];have e0:b0 (iH [a])=(iG a.k,jZ a):=rfl;rw[e0];rw[E.aB]at wa ⊢;simp only at Z6;generalize wb 7 (iG a.k,jZ a)=A at *;have k1:iT .add (.str A) (.str [46])=some (.str (A++[46])):=oY (by simp;omega);have k2:iT .add (.str (A++[46])) (.str e.nm)=some (.str (A++46::e.nm)):=jC (by simp;omega) (by simp);simp[JR,wa,-dM,k1,k2,aF,aC];rw[if_neg c5];by_cases c6:e.k=6;obtain⟨⟨a,b,ha⟩,_⟩:=wY hk (by omega);have am:a∈e.ay:=by rw[ha];simp
  have bm:b∈e.ay:=by rw[ha];simp
  have sd:=hlen a am;have hsa:=E.cR am;have hlb:=hlen b bm;have hsb:=E.cR bm;have wa:∀(wl J:Nat) (st:ai),(aT S).call wl J 87 [.agg a.aG,.int .i64 7] st=some (.str (wb 7 (iG a.k,jZ a)),st):=λwl J st=>qU wl J (pS a am) (by omega) 7 st;have xb:=pS b bm;unfold AO at xb;have Z6:=tS 7 (iG a.k,jZ a);rw[if_pos c6,c6,ha,P8];have e0:b0 (iH [a,b])=(iG a.k,jZ a):=rfl;have e1:(b1 (iH [a,b])).2=jZ b:=rfl;rw[e0,e1];rw[E.aB]at wa xb;rw[E.aB a,E.aB b];simp only at Z6;generalize wb 7 (iG a.k,jZ a)=A at *;generalize jZ b=B at *;have k1:iT .add (.str A) (.str [91])=some (.str (A++[91])):=oY (by simp;omega);have k2:iT .add (.str (A++[91])) (.str B)=some (.str (A++91::B)):=jC (by simp;omega) (by simp);have k3:iT .add (.str (A++91::B)) (.str [93])=some (.str (A++91::(B++[93]))):=jC (by simp;omega) (by simp);simp[JR,wa,xb,-dM,k1,k2,k3,aF,aC];rw[if_neg c6,if_neg c7];by_cases c8:e.k=8;have ho:=jY (ht8 c8).1;have k1:iT .add (.str [110,101,119,32]) (.str e.on)=some (.str (tR++32::e.on)):=jC (by simp;omega) rfl;rw[if_pos c8,c8];simp[JR,-dM,k1];rw[if_neg c8];by_cases c9:e.k=9;obtain⟨a,ha⟩:=mD hk (by omega);obtain⟨g1,g2,g3⟩:=ht (by omega);have ho:=qf g1;have ty:=λwl J st=>mQ wl J e.on e.od ho g2 g3 st;have tl:=mh ho g3;have am:a∈e.ay:=by rw[ha];simp
  have sd:=hlen a am;have hsa:=E.cR am;have xa:=pS a am;unfold AO at xa;rw[if_pos c9,c9,ha,uC];have e0:(b0 (iH [a])).2=jZ a:=rfl;rw[e0];rw[E.aB]at xa ⊢;generalize jZ a=A at *;generalize yC e.on e.od=O at *;have k1:iT .add (.str [110,101,119,32,91]) (.str O)=some (.str (tR++32::91::O)):=jC (by simp;omega) rfl;have k2:iT .add (.str (tR++32::91::O)) (.str [93,40])=some (.str (tR++32::91::(O++[93,40]))):=jC (by simp[tR];omega) (by simp);have k3:iT .add (.str (tR++32::91::(O++[93,40]))) (.str A)=some (.str (tR++32::91::(O++93::40::A))):=jC (by simp[tR];omega) (by simp);have k4:iT .add (.str (tR++32::91::(O++93::40::A))) (.str [41])=some (.str (tR++32::91::(O++93::40::(A++[41])))):=jC (by simp[tR];omega) (by simp);simp[JR,ty,xa,-dM,k1,k2,k3,k4,aF,aC];rw[if_neg c9];by_cases vR:e.k=10;obtain⟨a,ha⟩:=mD hk (by omega);have am:a∈e.ay:=by rw[ha];simp
  have sd:=hlen a am;have hsa:=E.cR am;have xa:=pS a am;unfold AO at xa;rw[if_pos vR,vR,ha,uC];have e0:(b0 (iH [a])).2=jZ a:=rfl;rw[e0];rw[E.aB]at xa ⊢;generalize jZ a=A at *;have k1:iT .add (.str [108,101,110,40]) (.str A)=some (.str (Fa++40::A)):=jC (by simp;omega) rfl;have k2:iT .add (.str (Fa++40::A)) (.str [41])=some (.str (Fa++40::(A++[41]))):=jC (by simp[Fa];omega) (by simp);simp[JR,xa,-dM,k1,k2];rw[if_neg vR];by_cases zl:e.k=11;rw[if_pos zl,zl];simp[JR,Ck];rw[if_neg zl];by_cases AK:e.k=12;obtain⟨a,ha⟩:=mD hk (by omega);have am:a∈e.ay:=by rw[ha];simp
  have sd:=hlen a am;have hsa:=E.cR am;have wa:∀(wl J:Nat) (st:ai),(aT S).call wl J 87 [.agg a.aG,.int .i64 6] st=some (.str (wb 6 (iG a.k,jZ a)),st):=λwl J st=>qU wl J (pS a am) (by omega) 6 st;have Z6:=tS 6 (iG a.k,jZ a);rw[if_pos AK,AK,ha,uC];have e0:b0 (iH [a])=(iG a.k,jZ a):=rfl;rw[e0];rw[E.aB]at wa ⊢;simp only at Z6;generalize wb 6 (iG a.k,jZ a)=A at *;have k1:iT .add (.str [45]) (.str A)=some (.str (45::A)):=jC (by simp;omega) rfl;simp[JR,wa,-dM,k1];rw[if_neg AK];by_cases AM:e.k=13;obtain⟨a,ha⟩:=mD hk (by omega);have am:a∈e.ay:=by rw[ha];simp
  have sd:=hlen a am;have hsa:=E.cR am;have wa:∀(wl J:Nat) (st:ai),(aT S).call wl J 87 [.agg a.aG,.int .i64 6] st=some (.str (wb 6 (iG a.k,jZ a)),st):=λwl J st=>qU wl J (pS a am) (by omega) 6 st;have Z6:=tS 6 (iG a.k,jZ a);rw[if_pos AM,AM,ha,uC];have e0:b0 (iH [a])=(iG a.k,jZ a):=rfl;rw[e0];rw[E.aB]at wa ⊢;simp only at Z6;generalize wb 6 (iG a.k,jZ a)=A at *;have k1:iT .add (.str [33]) (.str A)=some (.str (33::A)):=jC (by simp;omega) rfl;simp[JR,wa,-dM,k1];rw[if_neg AM];obtain⟨⟨a,b,ha⟩,k24⟩:=wY hk (by omega);have am:a∈e.ay:=by rw[ha];simp
  have bm:b∈e.ay:=by rw[ha];simp
  have sd:=hlen a am;have hsa:=E.cR am;have hlb:=hlen b bm;have hsb:=E.cR bm;have lv:=λwl J st=>wN wl J e st;have wa:=λwl J st=>qU wl J (pS a am) (by omega) (iG e.k) st;have wb2:∀(wl J:Nat) (st:ai),(aT S).call wl J 87 [.agg b.aG,.int .i64 ((iG e.k:Int)+1)] st=some (.str (wb (iG e.k+1) (iG b.k,jZ b)),st):=λwl J st=>qU wl J (pS b bm) (by omega) (iG e.k+1) st;have sg:=λwl J st=>IC wl J e.k (by omega) k24 st;have sl:=Ma e.k;have Z6:=tS (iG e.k) (iG a.k,jZ a);have wbr:=tS (iG e.k+1) (iG b.k,jZ b);have zu:iG e.k<=7:=(tq e.k).2;have hwl:IntKind.i64.wrap ((iG e.k:Int)+1)=(iG e.k:Int)+1:=by rw[dn]<;>omega
  have e0:b0 (iH [a,b])=(iG a.k,jZ a):=rfl;have e1:b1 (iH [a,b])=(iG b.k,jZ b):=rfl;rw[E.aB,ha,P8]at lv;rw[ha,P8,e0,e1];rw[E.aB]at wa wb2;rw[E.aB a,E.aB b]at lv ⊢;simp only at Z6 wbr;generalize wb (iG e.k) (iG a.k,jZ a)=A at *;generalize wb (iG e.k+1) (iG b.k,jZ b)=B at *;generalize iN e.k=Y2 at *;generalize iG e.k=L at *;have k1:iT .add (.str A) (.str [32])=some (.str (A++[32])):=oY (by simp;omega);have k2:iT .add (.str (A++[32])) (.str Y2)=some (.str (A++32::Y2)):=jC (by simp;omega) (by simp);have k3:iT .add (.str (A++32::Y2)) (.str [32])=some (.str (A++32::(Y2++[32]))):=jC (by simp;omega) (by simp);have k4:iT .add (.str (A++32::(Y2++[32]))) (.str B)=some (.str (A++32::(Y2++32::B))):=jC (by simp;omega) (by simp);simp[JR,c1,c2,c3,c4,c5,c6,c7,c8,c9,vR,zl,AK,AM,lv,wa,wb2,sg,hwl,-dM,k1,k2,k3,k4,aF,aC]
end P6
