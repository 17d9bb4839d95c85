import Derived.Test.YtmngjhagbjgmfaaGreatMd
set_option linter.all false
open Bool renaming and_eq_true->bt,false->ai,false_eq_true->aE,not_true->ei,true->ab
open Decidable renaming decide->al
open Int renaming eq_ofNat_of_zero_le->nu
open List renaming append_nil->pU,flatten_append->n9,flatten_cons->oZ,getElem_of_mem->Fz,length_append->cW,length_cons->jR,length_map->q8,length_singleton->Js,length_take->oX,map_append->q7,map_cons->gz,mem_append->bA,mem_cons->cu,mem_cons_of_mem->eY,mem_cons_self->nY,mem_map->dE,mem_of_mem_take->uI,mem_singleton->eb,nil_append->oV,not_mem_nil->jQ,pairwise_cons->qY,pairwise_iff_getElem->B6,replicate->cU
open Nat renaming add_sub_cancel->PS,le_refl->bx,le_trans->lN,zero_le->kF
open Option renaming bind->uH,bind_some->aq,some->aa
open Option.some renaming inj->jP
open Sum renaming elim_inl->bw,elim_inr->bC
namespace Go.Proofs.YtmngjhagbjgmfaaGreat
open Go Go.RowKit Dp
namespace Rx
section
variable {α:Type} (key:α->Int)
def tt(l:List α):Prop:=l.Pairwise (λa b=>key a<key b)
variable {key}
def ajx:∀{l m:List α},tt key l->tt key m->(∀x,x∈l↔x∈m)->l=m:=by
 intro l;induction l with
 |nil=>
  intro m _ _ he;cases m with
  |nil=>rfl
  |cons b m=>exact(jQ ((he b).2 nY)).elim
 |cons a l ih=>
  intro m hl hm he;cases m with
  |nil=>exact(jQ ((he a).1 nY)).elim
  |cons b m=>
   have pE:=qY.1 hl;have mF:=qY.1 hm;have hab:a=b:=by
    rcases cu.1 ((he a).1 nY)with h|h
    ·exact h
    ·rcases cu.1 ((he b).2 nY)with h2|h2
     ·exact h2.symm
     ·have h3:=mF.1 _ h;have h4:=pE.1 _ h2;omega
   subst hab;cR 1;refine ih pE.2 mF.2 λx=>⟨λhx=>?_,λhx=>?_⟩
   ·rcases cu.1 ((he x).1 (eY _ hx))with h|h
    ·subst h;have:=pE.1 _ hx;omega
    ·exact h
   ·rcases cu.1 ((he x).2 (eY _ hx))with h|h
    ·subst h;have:=mF.1 _ hx;omega
    ·exact h
def tt.nodup{l:List α}(h:tt key l):l.Nodup:=h.imp λ{a b} hab he=>by subst he;omega
def LR{l m:List α}(hl:l.Nodup):(∀x∈l,x∈m)->l.length<=m.length:=by
 induction l generalizing m with
 |nil=>intro _;simp
 |cons a l ih=>
  intro h;have h':=List.nodup_cons.1 hl;obtain⟨s,t,rfl⟩:=List.append_of_mem (h a nY);have:=ih (m:=s++t) h'.2 λx hx=>by
   have hxa:x≠a:=λhe=>h'.1 (he▸hx);have:=h x (eY _ hx);simp only[bA,cu]at this⊢;rcases this with h|h|h
   ·exact .inl h
   ·exact(hxa h).elim
   ·exact .inr h
  simp only[cW,jR]at this⊢;omega
variable (key)
def l7(x:α):List α->List α
 |[]=>[x]
 |y::r=>if key x<key y then y::l7 x r else x::y::r
def tK:List α->List α->List α
 |acc,[]=>acc
 |acc,x::r=>tK (l7 key x acc) r
def mq(l:List α):List α:=(tK key [] l).reverse
def VG:Int->List α->List α
 |_,[]=>[]
 |k,y::r=>if key y=k then VG k r else y::VG (key y) r
def dd:List α->List α
 |[]=>[]
 |x::r=>x::VG key (key x) r
variable {key}
def Tf(x:α)(r:List α):(l7 key x r).length=r.length+1:=by
 induction r with
 |nil=>rfl
 |cons y r ih=>unfold l7;split<;>simp[ih]
def Te{x z:α}{r:List α}:z∈l7 key x r↔z=x∨z∈r:=by
 induction r with
 |nil=>simp[l7]
 |cons y r ih=>
  unfold l7;split
  ·simp only[cu,ih];constructor
   ·rintro(h|h|h)
    ·exact .inr (.inl h)
    ·exact .inl h
    ·exact .inr (.inr h)
   ·rintro(h|h|h)
    ·exact .inr (.inl h)
    ·exact .inl h
    ·exact .inr (.inr h)
  ·simp[cu]
def asd{x:α}{r:List α}(h:r.Pairwise (λa b=>key b<=key a)):(l7 key x r).Pairwise (λa b=>key b<=key a):=by
 induction r with
 |nil=>simp[l7]
 |cons y r ih=>
  have h':=qY.1 h;unfold l7;split
  ·rename_i aV;refine qY.2 ⟨λz hz=>?_,ih h'.2⟩;rcases Te.1 hz with rfl|hz
   ·omega
   ·exact h'.1 _ hz
  ·rename_i aV;refine qY.2 ⟨λz hz=>?_,h⟩;rcases cu.1 hz with rfl|hz
   ·omega
   ·have:=h'.1 _ hz;omega
def anZ(l acc:List α):(tK key acc l).length=acc.length+l.length:=by
 induction l generalizing acc with
 |nil=>rfl
 |cons x l ih=>unfold tK;rw[ih,Tf];simp only[jR];omega
def anY{z:α}{l acc:List α}:z∈tK key acc l↔z∈acc∨z∈l:=by
 induction l generalizing acc with
 |nil=>simp[tK]
 |cons x l ih=>
  unfold tK;rw[ih,Te,cu];constructor
  ·rintro((h|h)|h)
   ·exact .inr (.inl h)
   ·exact .inl h
   ·exact .inr (.inr h)
  ·rintro(h|h|h)
   ·exact .inl (.inr h)
   ·exact .inl (.inl h)
   ·exact .inr h
def anW{l acc:List α}(h:acc.Pairwise (λa b=>key b<=key a)):(tK key acc l).Pairwise (λa b=>key b<=key a):=by
 induction l generalizing acc with
 |nil=>exact h
 |cons x l ih=>exact ih (asd h)
def anT(l:List α):(mq key l).length=l.length:=by unfold mq;rw[List.length_reverse,anZ];simp
def F0{z:α}{l:List α}:z∈mq key l↔z∈l:=by unfold mq;rw[List.mem_reverse,anY];simp
def anP(l:List α):(mq key l).Pairwise (λa b=>key a<=key b):=by unfold mq;rw[List.pairwise_reverse];exact anW List.Pairwise.nil
structure Col(key:α->Int)(xs out:List α):Prop where
 asc:tt key out
 head:∀y∈out,(xs.filter (λz=>decide (key z=key y))).head? =aa y
 all:∀x∈xs,∃y∈out,key y=key x
def asa{step:Int×List α->Option ((Int×List α)⊕List α)}{G:α->Prop}
  (s0:∀d,step (0,d)=aa (.inr d))
  (s1:∀(a:List α) (y x:α) (b:List α),a.length+b.length<=1000->G y->G x->step (((a.length+1:Nat):Int),a++y::x::b)=if key x<key y then aa (.inl ((a.length:Int),a++x::y::b))else aa (.inr (a++y::x::b))):
  ∀(r:List α) (x:α) (b:List α),r.length+b.length<=1000->(∀z∈r,G z)->G x->∃k,k<=r.length∧me step k ((r.length:Int),r.reverse++x::b) ((l7 key x r).reverse++b):=by
 intro r
 induction r with
 |nil=>intro x b _ _ _;exact⟨0,bx _,.done (s0 _)⟩
 |cons y r ih=>
  intro x b hl hr hx
  have hs:=s1 r.reverse y x b (by simp at hl⊢;omega) (hr y nY) hx
  rw[List.length_reverse]at hs
  have e1:(y::r).reverse++x::b=r.reverse++y::x::b:=by simp
  rw[e1]
  by_cases aV:key x<key y
  ·obtain⟨k,hk,fy⟩:=ih x (y::b) (by simp at hl⊢;omega) (λz hz=>hr z (eY _ hz)) hx;rw[aH aV]at hs;refine⟨k+1,by simp;omega,?_⟩;have e2:(l7 key x (y::r)).reverse++b=(l7 key x r).reverse++y::b:=by rw[l7,aH aV];simp
   rw[e2];exact .more hs fy
  ·rw[aL aV]at hs;refine⟨0,kF _,?_⟩;have e2:(l7 key x (y::r)).reverse++b=r.reverse++y::x::b:=by rw[l7,aL aV];simp
   rw[e2];exact .done hs
def anR{step:Int×List α->Option ((Int×List α)⊕List α)}{G:α->Prop}{n:Nat}(hn:n<=1000)
  (s1:∀(r:List α) (x:α) (b:List α),r.length+1+b.length=n->(∀z∈r,G z)->G x->step ((r.length:Int),r.reverse++x::b)=aa (.inl (((r.length+1:Nat):Int),(l7 key x r).reverse++b)))
  (s2:∀d,step ((n:Int),d)=aa (.inr d)):
  ∀(b r:List α),r.length+b.length=n->(∀z∈r,G z)->(∀z∈b,G z)->me step b.length ((r.length:Int),r.reverse++b) (tK key r b).reverse:=by
 intro b
 induction b with
 |nil=>
  intro r hl _ _
  have:r.length=n:=by simpa using hl
  rw[this,pU]
  exact .done (s2 _)
 |cons x b ih=>
  intro r hl hr hb
  have h:=s1 r x b (by simp at hl;omega) hr (hb x nY)
  have:=ih (l7 key x r) (by rw[Tf];simp at hl;omega) (λz hz=>(Te.1 hz).elim (λe=>e▸hb _ nY) (hr z)) (λz hz=>hb z (eY _ hz))
  rw[Tf]at this
  exact .more h this
end
end Rx
namespace Rx
open Classical
def Nr(a b:Part):Bool:=a.Kind==b.Kind&&a.Number==b.Number
def aeK{a b:Part}:Nr a b=ab↔a=b:=by unfold Nr;cases a;cases b;simp
def Vm{a b:Part}(h:a≠b):Nr a b=ai:=by
 cases e:Nr a b with
 |true=>exact(h (aeK.1 e)).elim
 |false=>rfl
structure VP(p:Part):Prop where
 k0:1<=p.Kind
 k1:p.Kind<=9
 n0:0<=p.Number
 n1:p.Number<=63
def pk(p:Part):Int:=p.Kind*64+p.Number
def VP.bd{p:Part}(h:VP p):64<=pk p∧pk p<1024:=by obtain⟨h1,h2,h3,h4⟩:=h;unfold pk;omega
def ap4{p q:Part}(hp:VP p)(hq:VP q)(h:pk p=pk q):p=q:=by obtain⟨h1,h2,h3,h4⟩:=hp;obtain⟨g1,g2,g3,g4⟩:=hq;unfold pk at h;exact Sb (by omega) (by omega)
def EB(a b:Int):Int:=if a<b then-1 else if a>b then 1 else 0
def ax7(a b:Int):vR a b=aa (EB a b):=by
 unfold vR Iv EB;simp only[aq,mi,aE,aD];by_cases h:a<b
 ·simp[h]
 ·by_cases h2:a>b
  ·simp[h,h2]
  ·simp[h,h2]
def ae'(x y:Int):(x<y∧EB x y= -1)∨(x=y∧EB x y=0)∨(x>y∧EB x y=1):=by
 unfold EB;by_cases h1:x<y
 ·exact .inl ⟨h1,aH h1⟩
 ·rw[aL h1];by_cases h2:x>y
  ·exact .inr (.inr ⟨h2,aH h2⟩)
  ·exact .inr (.inl ⟨by omega,aL h2⟩)
def LB{a b:Part}(ha:VP a)(hb:VP b):∃c,Bz a b=aa c∧(c<0↔pk a<pk b)∧(c=0↔pk a=pk b)∧(-1<=c∧c<=1):=by
 unfold Bz;simp only[ax7,LD,aq];refine⟨_,rfl,?_⟩;obtain⟨h1,h2,h3,h4⟩:=ha;obtain⟨g1,g2,g3,g4⟩:=hb;unfold pk;rcases ae' a.Kind b.Kind with⟨c1,c2⟩|⟨c1,c2⟩|⟨c1,c2⟩<;>rw[c2]
 ·rw[aH (by omega)];omega
 ·rw[aL (by omega)];rcases ae' a.Number b.Number with⟨d1,d2⟩|⟨d1,d2⟩|⟨d1,d2⟩<;>rw[d2]<;>omega
 ·rw[aH (by omega)];omega
def at0{α:Type}(a:List α)(y:α)(b:List α):idx (a++y::b) ((a.length:Nat):Int)=aa y:=by rw[Ms];simp
def vU{α:Type}(a:List α)(y x:α)(b:List α):idx (a++y::x::b) ((a.length+1:Nat):Int)=aa x:=by rw[Ms,List.getElem?_append_right (by omega),show a.length+1-a.length=1 by omega];rfl
def aoB{α:Type}(a:List α)(y z:α)(b:List α):(a++y::b).set a.length z=a++z::b:=by
 induction a with
 |nil=>rfl
 |cons c a ih=>simp[ih]
def aoA{α:Type}(a:List α)(y x z:α)(b:List α):(a++y::x::b).set (a.length+1) z=a++y::z::b:=by
 induction a with
 |nil=>rfl
 |cons c a ih=>simp[ih]
def an7(d:List Part):F8 0 (0,d)=aa (.inr d):=by unfold F8;simp only[dF (c:=(0:Int)>0) (by omega),aE,aD,aq]
def an6(a:List Part)(y x:Part)(b:List Part)(hl:a.length+b.length<=1000)(hy:VP y)(hx:VP x):F8 0 (((a.length+1:Nat):Int),a++y::x::b)=if pk x<pk y then aa (.inl ((a.length:Int),a++x::y::b))else aa (.inr (a++y::x::b)):=by
 unfold F8;have hW:W (((a.length+1:Nat):Int)-1)=(a.length:Int):=nT (k:=a.length+1) (by omega) (by omega);obtain⟨c,hc,c1,_⟩:=LB hx hy;simp only[dT (c:=((a.length+1:Nat):Int)>0) (by omega),aI,hW,vU,at0,hc,aq];by_cases aV:pk x<pk y
 ·simp only[dT (c1.2 aV),aI,aH aV];rw[jC (show a.length+1<(a++y::x::b).length by simp),aoA];simp only[aq,at0];rw[jC (show a.length<(a++y::y::b).length by simp),aoB];rfl
 ·simp only[dF (λh=>aV (c1.1 h)),aE,aD,aL aV]
def asf{l:List Part}(hn:l.length<20)(hl:∀x∈l,VP x):J3 l 0 (len l)=aa (mq pk l):=by
 unfold J3;have e3:W (0+1)=((1:Nat):Int):=bZ (by omega) (by omega);rw[e3];cases l with
 |nil=>
  have:aJ (CH 0 (len ([]:List Part))) (((1:Nat):Int),[])=aa []:=dQ (λ_=>(((1:Nat):Int),[])) 0 (λk hk=>by omega) (by unfold CH;simp[len])
  rw[this];rfl
 |cons x b=>
  have h:=anR (step:=CH 0 (len (x::b))) (G:=VP) (key:=pk) (n:=(x::b).length) (by omega) (λr z b' hl hr hz=>by
   unfold CH;simp only[dT (c:=(r.length:Int)<len (x::b)) (by unfold len;omega),aI];obtain⟨k,hk,fy⟩:=asa (key:=pk) (G:=VP) an7 an6 r z b' (by omega) hr hz;rw[oz fy (by omega)];simp only[aq];rw[ba (by omega)]) (λd=>by
   unfold CH;simp only[dF (c:=(((x::b).length:Nat):Int)<len (x::b)) (by unfold len;omega),aE,aD]) b [x] (by simp;omega) (λz hz=>hl z (by simp at hz;simp[hz])) (λz hz=>hl z (eY _ hz))
  have h':=oz h (by simp at hn;omega);simp only[jR,List.length_nil,List.reverse_cons,List.reverse_nil,oV,List.singleton_append,Nat.zero_add]at h';have e:len (x::b)=((b.length+1:Nat):Int):=by simp[len]
  rw[h'];rfl
def M4{l:List Part}(hl:l.length<=1000000)(p:Part):yR l p=aa (dB (p∈l)):=by
 have h:Wp (aJ (wC l p) 0) λr=>(p∈l∧∃k:Nat,r= .inr (k:Int))∨(p∉l∧r= .inl ()):=by
  refine dV l.length (λk s=>s=(k:Int)∧∀i,i<k->gt l i≠p) ⟨rfl,λi hi=>by omega⟩ (λk s hk hv=>?_) (λs hv=>?_) (by omega)
  ·obtain⟨rfl,hv⟩:=hv;unfold wC;simp only[bb hk,aI,aP hk,aq];by_cases hq:p=gt l k
   ·rw[show(p.Kind==(gt l k).Kind&&p.Number==(gt l k).Number)=ab from aeK.2 hq];simp only[aI];exact au.2 (.inl ⟨by rw[hq];exact dx hk,k,rfl⟩)
   ·rw[show(p.Kind==(gt l k).Kind&&p.Number==(gt l k).Number)=ai from Vm hq];simp only[aE,aD];rw[ba (by omega)];refine au.2 ⟨rfl,λi hi=>?_⟩;by_cases eN:i=k
    ·rw[eN];exactλhe=>hq he.symm
    ·exact hv i (by omega)
  ·obtain⟨rfl,hv⟩:=hv;unfold wC;simp only[bJ,aE,aD];refine au.2 (.inr ⟨λhp=>?_,rfl⟩);obtain⟨i,hi,he⟩:=ou hp;exact hv i hi he
 obtain⟨r,hr,h⟩:=h;unfold yR Gc J7;rw[hr];rcases h with⟨hp,k,rfl⟩|⟨hp,rfl⟩
 ·rw[iN hp];simp only[aq,bC,dT (c:=(k:Int)>=0) (by omega)]
 ·rw[gU hp];rfl
def aCe{n:Nat}(h:n<=12):∃r,O0 (ru IntKind.u64 (n:Int))=aa r:=by
 match n,h with
 |0,_=>exact⟨0,by kernel_rfl⟩
 |1,_=>exact⟨1,by kernel_rfl⟩
 |2,_=>exact⟨2,by kernel_rfl⟩
 |3,_=>exact⟨2,by kernel_rfl⟩
 |4,_=>exact⟨3,by kernel_rfl⟩
 |5,_=>exact⟨3,by kernel_rfl⟩
 |6,_=>exact⟨3,by kernel_rfl⟩
 |7,_=>exact⟨3,by kernel_rfl⟩
 |8,_=>exact⟨4,by kernel_rfl⟩
 |9,_=>exact⟨4,by kernel_rfl⟩
 |10,_=>exact⟨4,by kernel_rfl⟩
 |11,_=>exact⟨4,by kernel_rfl⟩
 |12,_=>exact⟨4,by kernel_rfl⟩
def ZY{l:List Part}(hn:l.length<=12)(hl:∀x∈l,VP x):F9 l=aa (mq pk l):=by
 obtain⟨r,hr⟩:=aCe hn;have TP:O0 (ru IntKind.u64 (len l))=aa r:=hr;have e:aJ Q0 (0,len l,r,ab,ab,l)=aa (mq pk l):=dQ (λ_=>(0,len l,r,ab,ab,l)) 0 (λk hk=>by omega) (by unfold Q0;simp only[bZ (x:=len l-0) (by unfold len;omega) (by unfold len;omega),dT (c:=len l-0<=12) (by unfold len;omega),aI,asf (show l.length<20 by omega) hl,aq,bC])
 unfold F9 Q1;simp only[TP,e,aq]
def ase{α:Type}{key:α->Int}(x:α)(r:List α):(l7 key x r).Perm (x::r):=by
 induction r with
 |nil=>exact .refl _
 |cons y r ih=>
  unfold l7;split
  ·exact(ih.cons y).trans (.swap _ _ _)
  ·exact .refl _
def anX{α:Type}{key:α->Int}:∀(l acc:List α),(tK key acc l).Perm (l++acc):=by
 intro l;induction l with
 |nil=>intro acc;exact .refl _
 |cons x l ih=>intro acc;unfold tK;refine(ih _).trans ?_;refine((ase x acc).append_left l).trans ?_;exact List.perm_middle
def anS{α:Type}{key:α->Int}(l:List α):(mq key l).Perm l:=by unfold mq;refine(List.reverse_perm _).trans ((anX l []).trans ?_);rw[pU]
def QQ{l:List Part}(hd:l.Nodup)(hl:∀x∈l,VP x):tt pk (mq pk l):=by
 have h:=anP (key:=pk) l;have hn:(mq pk l).Nodup:=(anS l).nodup_iff.2 hd;have hm:∀x∈mq pk l,VP x:=λx hx=>hl x (F0.1 hx);revert h hn hm;generalize mq pk l=m;induction m with
 |nil=>intro _ _ _;exact .nil
 |cons x m ih=>
  intro h hn hm;have h':=qY.1 h;have DM:=List.nodup_cons.1 hn;refine qY.2 ⟨λy hy=>?_,ih h'.2 DM.2 λz hz=>hm z (eY _ hz)⟩;have h1:=h'.1 y hy;rcases Int.lt_or_eq_of_le h1 with h2|h2
  ·exact h2
  ·have:=ap4 (hm x nY) (hm y (eY _ hy)) h2;subst this;exact(DM.1 hy).elim
def anQ{l m:List Part}(h:m.Perm l)(hd:l.Nodup)(hl:∀x∈l,VP x):mq pk m=mq pk l:=ajx (QQ (h.nodup_iff.2 hd) λx hx=>hl x (h.mem_iff.1 hx)) (QQ hd hl) λx=>by rw[F0,F0];exact h.mem_iff
def anU{l:List Part}(h:tt pk l)(hl:∀x∈l,VP x):mq pk l=l:=ajx (QQ h.nodup hl) h λx=>F0
def ax4{l:List Part}(hn:l.length<=1000)(h:tt pk l):KA l=aa l:=by
 unfold KA;by_cases h2:l.length<2
 ·rw[dT (c:=len l<2) (by unfold len;omega),aH rfl]
 ·rw[dF (c:=len l<2) (by unfold len;omega)];have e:aJ Kz (1,l)=aa (.inl l):=dQ (λk=>(((k+1:Nat):Int),l)) (l.length-1) (λk hk=>by
   unfold Kz;have bR:((gt l (k+1)).Kind==(gt l k).Kind&&(gt l (k+1)).Number==(gt l k).Number)=ai:=Vm λhe=>by have:=B6.1 h k (k+1) (by omega) (by omega) (by omega);rw[<-fJ (by omega),<-fJ (by omega),he]at this;omega
   simp only[bb (show k+1<l.length by omega),aI,aP (show k+1<l.length by omega),nT (k:=k+1) (by omega) (by omega),PS,aP (show k<l.length by omega),aq,bR,aE,aD];rw[ba (by omega)]) (by
   unfold Kz;rw[show l.length-1+1=l.length by omega];simp only[bJ,aE,aD])
  simp only[aE,aD,e,aq,bw]
def av6{n:Nat}(h:n<=100000):Kd (n:Int)=aa []:=by
 have h0:W ((n:Int)-W (0-0))=(n:Int):=by rw[show W (0-0)=0 from bZ (by omega) (by omega),Int.sub_zero];exact bZ (by omega) (by omega)
 unfold Kd;rw[dF (c:=(n:Int)<0) (by omega),h0];simp only[aE,aD];by_cases hp:(n:Int)>0
 ·rw[dT hp];simp only[aI];rw[show dK ([]:List Unit) 0 0=aa []from rfl];simp only[aq];rw[show Ah (Part.mk 0 0) (n:Int)=aa (cU (n:Int).toNat (Part.mk 0 0))from by unfold Ah;rw[aH ⟨by omega,by omega⟩]];simp only[aq];rw[show dK (cU (n:Int).toNat (Part.mk 0 0)) 0 0=aa []from by unfold dK;rw[aH ⟨by omega,by omega,by omega⟩];simp];rfl
 ·rw[dF hp];rfl
def ae8{L:List (List Part)}(hl:L.length<=10)(hn:L.flatten.length<=1000):Ge L=aa L.flatten:=by
 have hp:∀k,(L.take k).flatten.length<=1000:=λk=>by
  have e:L.flatten=(L.take k).flatten++(L.drop k).flatten:=by rw[<-n9,List.take_append_drop]
  rw[e,cW]at hn;omega
 have hs:∀k,k<L.length->(L.take (k+1)).flatten=(L.take k).flatten++gt L k:=λk hk=>by rw[lm hk,n9];simp
 have h0:(L.take L.length).flatten=L.flatten:=by rw[List.take_length]
 have hc:∀k,k<L.length->(L.take k).flatten.length+(gt L k).length<=1000:=λk hk=>by have:=hp (k+1);rw[hs k hk,cW]at this;exact this
 have e1:aJ (Ky L) (0,0)=aa ((L.flatten.length:Nat):Int):=dQ (λk=>((((L.take k).flatten.length:Nat):Int),(k:Int))) L.length (λk hk=>by
  have:=hc k hk;unfold Ky;simp only[bb hk,aI,aP hk,aq];rw[bZ (by unfold len;omega) (by unfold len;omega),dF (show ¬(((L.take k).flatten.length:Nat):Int)+len (gt L k)<0 by unfold len;omega),ba (by omega),hs k hk,cW];simp[len]) (by
  unfold Ky;simp only[bJ,aE,aD,h0])
 have e3:aJ (Kx L) (0,[])=aa L.flatten:=dQ (λk=>((k:Int),(L.take k).flatten)) L.length (λk hk=>by
  unfold Kx;simp only[bb hk,aI,aP hk,aq];rw[cK (by have:=hc k hk;omega),ba (by omega),hs k hk];rfl) (by
  unfold Kx;simp only[bJ,aE,aD,h0])
 unfold Ge;simp only[e1,av6 (show L.flatten.length<=100000 by omega),e3,aq]
end Rx
namespace Rx
open Classical
def kp(x:Int×Int×Bool):Part:=⟨x.1,x.2.1⟩
def BV(m:List (Int×Int×Bool)):Prop:=(m.map kp).Nodup∧∀x∈m,x.2.2=ab
def aqZ{m:List (Int×Int×Bool)}(h:BV m)(p:Part):yf (λbK=>bK.1==p.Kind&&bK.2.1==p.Number) (λcq=>cq.2.2) ai m=dB (p∈m.map kp):=by
 unfold yf;cases hf:m.find? (λbK=>bK.1==p.Kind&&bK.2.1==p.Number)with
 |none=>rw[gU];intro hm;obtain⟨x,hx,rfl⟩:=dE.1 hm;have:=List.find?_eq_none.1 hf x hx;simp[kp]at this
 |some x=>
  have h1:=List.mem_of_find?_eq_some hf;have h2:=List.find?_some hf;rw[iN]
  ·exact h.2 x h1
  ·refine dE.2 ⟨x,h1,?_⟩;simp only[bt,xw]at h2;unfold kp;rw[h2.1,h2.2]
def aqU{m:List (Int×Int×Bool)}(h:BV m){p:Part}(hp:p∉m.map kp):Ag (λbp=>bp.1==p.Kind&&bp.2.1==p.Number) (p.Kind,p.Number,ab) m=m++[(p.Kind,p.Number,ab)]:=by unfold Ag;rw[aL];intro hm;obtain⟨x,hx,h2⟩:=List.any_eq_true.1 hm;simp only[bt,xw]at h2;exact hp (dE.2 ⟨x,hx,by unfold kp;rw[h2.1,h2.2]⟩)
def BV.snoc{m:List (Int×Int×Bool)}(h:BV m){p:Part}(hp:p∉m.map kp):BV (m++[(p.Kind,p.Number,ab)]):=by
 refine⟨?_,λx hx=>?_⟩
 ·rw[q7,gz,List.map_nil];refine List.nodup_append.2 ⟨h.1,by simp,λa ha b hb=>?_⟩;rw[eb.1 hb];intro e;exact hp (by rw[e]at ha;exact ha)
 ·rcases bA.1 hx with hx|hx
  ·exact h.2 x hx
  ·rw[eb.1 hx]
def awj:∀(ys:List (Int×Int×Bool)) (s:List Part),s.length+ys.length<=1000->sT (λdG de=>uH (bG dG [Part.mk de.1 de.2.1]) λdP=>aa dP) s ys=aa (s++ys.map kp):=by
 intro ys;induction ys with
 |nil=>intro s _;unfold sT;rw[List.map_nil,pU]
 |cons y ys ih=>intro s h;unfold sT;simp only[jR]at h;rw[cK (by simp;omega)];simp only[aq,nD];rw[ih _ (by simp;omega),gz,List.append_assoc];rfl
structure Pf(U:List Part)(d:dy):Prop where
 n:U.length<=12
 vp:∀x∈U,VP x
 to:∀x∈d.ic,x.To∈U
 ln:d.ic.length<=60
def axj{d:dy}{U:List Part}(hU:Pf U d)(p:Part){l:List Part}(hl:l.length<=100000)(hm:∀x∈l,x∈U):Wp (aJ (NT d p) (0,l)) λr=>(∀x∈r,x∈U)∧r.length<=l.length+60:=by
 have hn:=hU.ln;refine dV d.ic.length (λk s=>∃r,s=((k:Int),r)∧(∀x∈r,x∈U)∧r.length<=l.length+k) ⟨l,rfl,hm,bx _⟩ ?_ ?_
 ·rintro k s hk ⟨r,rfl,h1,h2⟩;unfold NT;simp only[bb hk,aI,aP hk,aq];refine Wp.bind (Q:=λr=>(∀x∈r,x∈U)∧r.length<=l.length+(k+1)) ?_ λr hr=>au.2 ⟨r,by rw[ba (by omega)],hr⟩;refine Wp.ite (λ_=>?_) λ_=>au.2 ⟨h1,by omega⟩;rw[cK (by simp;omega)];refine au.2 ⟨λx hx=>?_,by simp;omega⟩;rcases bA.1 hx with hx|hx
  ·exact h1 x hx
  ·rw[eb.1 hx];exact hU.to _ (dx hk)
 ·rintro s ⟨r,rfl,h1,h2⟩;unfold NT;simp only[bJ,aE,aD];exact au.2 ⟨h1,by omega⟩
def axk{d:dy}{U:List Part}(hU:Pf U d){l:List Part}(hl:l.length<=1000)(hm:∀x∈l,x∈U):Wp (aJ (VF d) (l,[])) λm=>BV m∧∀x∈m.map kp,x∈U:=by
 have hn:=hU.n;refine tH (λs=>(12-s.2.length)*61+s.1.length) (λs=>(BV s.2∧∀x∈s.2.map kp,x∈U)∧(∀x∈s.1,x∈U)∧(12-s.2.length)*61+s.1.length<=2000) (λs hs=>?_) ⟨⟨⟨by simp,λx hx=>by cases hx⟩,λx hx=>by cases hx⟩,hm,by simp;omega⟩ (by simp;omega);obtain⟨nx,m⟩:=s;obtain⟨⟨h1,h2⟩,h3,h4⟩:=hs;simp only at h1 h2 h3 h4;have DO:m.length<=U.length:=by have:=LR h1.1 h2;rwa[q8]at this
 unfold VF;by_cases h0:0<nx.length
 ·obtain⟨p,nx,rfl⟩:=List.exists_cons_of_ne_nil (List.length_pos_iff.1 h0);simp only[jR]at h4;rw[dT (show len (p::nx)>0 by unfold len;simp only[jR];omega),aH rfl,show idx (p::nx) 0=aa p from rfl,show dK (p::nx) 1 (len (p::nx))=aa nx from Rp (n:=1) (by simp)];simp only[aq];rw[aqZ h1];by_cases hp:p∈m.map kp
  ·rw[iN hp,aH rfl];exact au.2 ⟨⟨⟨h1,h2⟩,λx hx=>h3 x (eY _ hx),by simp only;omega⟩,by simp only[jR];omega⟩
  ·rw[gU hp,aL (by decide),aqU h1 hp];have TG:=h1.snoc hp;have Bh:∀x∈(m++[(p.Kind,p.Number,ab)]).map kp,x∈U:=λx hx=>by
    rw[q7]at hx;rcases bA.1 hx with hx|hx
    ·exact h2 x hx
    ·rw[eb.1 hx];exact h3 p nY
   have atP:(m++[(p.Kind,p.Number,ab)]).length<=U.length:=by have:=LR TG.1 Bh;rwa[q8]at this
   simp only[cW,Js]at atP;refine Wp.bind (Q:=λr:List Part×List (Int×Int×Bool)=>r.2=m++[(p.Kind,p.Number,ab)]∧(∀x∈r.1,x∈U)∧r.1.length<=nx.length+60) ?_ λr hr=>?_
   ·exact(axj hU p (show nx.length<=100000 by omega) λx hx=>h3 x (eY _ hx)).bind λr hr=>au.2 ⟨rfl,hr⟩
   ·obtain⟨r1,r2⟩:=r;obtain⟨e,e1,e2⟩:=hr;simp only at e e1 e2;subst e;refine au.2 ⟨⟨⟨TG,Bh⟩,e1,?_⟩,?_⟩
    ·simp only[cW,Js];omega
    ·simp only[cW,Js,jR];omega
 ·rw[dF (show ¬len nx>0 by unfold len;omega),aL (by decide)];exact au.2 ⟨h1,h2⟩
def aCq{α ρ:Type}{xs:List α}{f:List α->Option ρ}{Q:ρ->Prop}{r:ρ}(h:∀zs,zs.Perm xs->f zs=aa r)(hq:Q r):Wp (BQ xs f) Q:=by rw[aCr h];exact au.2 hq
def Y9{d:dy}{U:List Part}(hc:Ex d=aa 0)(hU:Pf U d){l:List Part}(hl:l.length<=1000)(hm:∀x∈l,x∈U):Wp (Il d l) λr=>r.length<=12∧∀x∈r,x∈U:=by
 unfold Il;simp only[hc,aq,mi,aE,aD];unfold zJ;rw[cK (by simp;omega)];simp only[aq,oV];refine(axk hU hl hm).bind λm hm=>?_;obtain⟨h1,h2⟩:=hm;have DO:m.length<=U.length:=by have:=LR h1.1 h2;rwa[q8]at this
 have hn:=hU.n;have hvp:∀x∈m.map kp,VP x:=λx hx=>hU.vp x (h2 x hx);refine aCq (r:=mq pk (m.map kp)) (λzs hz=>?_) ⟨by rw[anT,q8];omega,λx hx=>h2 x (F0.1 hx)⟩;have gT:=hz.length_eq;have hzp:=hz.map kp;rw[awj zs [] (by simp;omega)];simp only[aq,oV];rw[ZY (by rw[q8];omega) λx hx=>hvp x (hzp.mem_iff.1 hx),anQ hzp h1.1 hvp];rfl
def akX{l:List Part}(hl:l.length<=12)(hv:∀x∈l,VP x)(ha:tt pk l):Ik [] l=aa l:=by unfold Ik;rw[ae8 (by simp) (by simp;omega)];simp only[aq,oZ,List.flatten_nil,oV,pU];rw[ZY hl hv,anU ha hv];simp only[aq];rw[ax4 (by omega) ha];rfl
end Rx
namespace Rx
open Classical
def kA(P:List Part):Prop:=tt pk P∧∀x∈P,VP x
def kA.lt{P:List Part}(h:kA P){i j:Nat}(iM:i<j)(hj:j<P.length):pk (gt P i)<pk (gt P j):=by rw[fJ (by omega),fJ hj];exact B6.1 h.1 i j (by omega) hj iM
def arB(a b:Part):Nt a b=aa (al (a.Kind<b.Kind∨(a.Kind=b.Kind∧a.Number<b.Number))):=by
 unfold Nt;by_cases h1:a.Kind<b.Kind
 ·rw[dT h1,aH rfl,dT (.inl h1)];rfl
 ·rw[dF h1,aL (by decide)];by_cases h2:a.Kind=b.Kind
  ·rw[gm h2,aH rfl];by_cases h3:a.Number<b.Number
   ·rw[dT h3,dT (.inr ⟨h2,h3⟩)];rfl
   ·rw[dF h3,dF (by omega)];rfl
  ·rw[dI h2,aL (by decide),dF (by omega)];rfl
def akV{g:List Part}(hg:g.length<=1000)(x:Part):Wp (Ns g x) λr=>(r≠[]∧r.length<=g.length+1)∧(∀y∈r,y=x∨y∈g)∧(kA g->VP x->kA r):=by
 unfold Ns;refine Wp.bind (Q:=λr=>∃i:Nat,r=(i:Int)∧i<=g.length∧(∀j,j<i->((gt g j).Kind<x.Kind∨((gt g j).Kind=x.Kind∧(gt g j).Number<x.Number)))∧(i<g.length->¬((gt g i).Kind<x.Kind∨((gt g i).Kind=x.Kind∧(gt g i).Number<x.Number)))) ?_ λr hr=>?_
 ·refine tH (λs=>g.length-s.toNat) (λs=>∃i:Nat,s=(i:Int)∧i<=g.length∧∀j,j<i->((gt g j).Kind<x.Kind∨((gt g j).Kind=x.Kind∧(gt g j).Number<x.Number))) (λs hs=>?_) ⟨0,rfl,kF _,λj hj=>by omega⟩ (by omega);obtain⟨i,rfl,h1,h2⟩:=hs;unfold aeP;by_cases hi:i<g.length
  ·simp only[bb hi,aI,aP hi,arB,aq];refine Wp.ite (λhh=>au.2 ?_) λhh=>au.2 ⟨i,rfl,h1,h2,λ_=>pQ hh⟩;rw[ba (by omega)];refine⟨⟨i+1,rfl,hi,λj hj=>?_⟩,by omega⟩;by_cases fI:j=i
   ·rw[fI];exact jA hh
   ·exact h2 j (by omega)
  ·rw[dF (show ¬(i:Int)<len g by unfold len;omega),aL (by decide)];simp only[aq,aE,aD];exact au.2 ⟨i,rfl,h1,h2,λh=>(hi h).elim⟩
 obtain⟨i,rfl,h1,h2,h3⟩:=hr;have fin:(¬i<g.length∨(i<g.length∧gt g i≠x))->Wp (uH (dK g 0 (i:Int)) λx8=>uH (dK g (i:Int) (len g)) λx9=>uH (bG [x] (uz g (i:Int))) λbf=>uH (bG (CB g (i:Int)) bf) λbp=>aa bp) λr=>(r≠[]∧r.length<=g.length+1)∧(∀y∈r,y=x∨y∈g)∧(kA g->VP x->kA r):=λhc=>by
  rw[CS h1,Rp h1];simp only[aq];rw[show uz g (i:Int)=g.drop i from by unfold uz;simp,show CB g (i:Int)=g.take i from by unfold CB;simp];rw[cK (by simp;omega)];simp only[aq];rw[cK (by simp;omega)];refine au.2 ⟨⟨by simp,by simp;omega⟩,λy hy=>?_,λhp hv=>⟨?_,λy hy=>?_⟩⟩
  ·rcases bA.1 hy with hy|hy
   ·exact .inr (uI hy)
   ·rcases bA.1 hy with hy|hy
    ·exact .inl (eb.1 hy)
    ·exact .inr (List.mem_of_mem_drop hy)
  ·have lo:∀j,j<i->pk (gt g j)<pk x:=λj hj=>by
    have h:=h2 j hj;have v:=hp.2 _ (dx (show j<g.length by omega));obtain⟨v1,v2,v3,v4⟩:=v;obtain⟨w1,w2,w3,w4⟩:=hv;unfold pk;omega
   have hi:∀j,i<=j->j<g.length->pk x<pk (gt g j):=λj hj dj=>by
    rcases hc with hc|⟨hc,bR⟩
    ·omega
    have h:=h3 hc;have v:=hp.2 _ (dx hc);have e:pk x<pk (gt g i):=by have hn:¬((gt g i).Kind=x.Kind∧(gt g i).Number=x.Number):=λhe=>bR (Sb he.1 he.2);obtain⟨v1,v2,v3,v4⟩:=v;obtain⟨w1,w2,w3,w4⟩:=hv;unfold pk;omega
    by_cases iM:i=j
    ·rw[<-iM];exact e
    ·have:=hp.lt (show i<j by omega) dj;omega
   refine List.pairwise_append.2 ⟨hp.1.sublist (List.take_sublist _ _),qY.2 ⟨λy hy=>?_,hp.1.sublist (List.drop_sublist _ _)⟩,λy hy z hz=>?_⟩
   ·have hy:y∈g.drop i:=hy;obtain⟨j,hj,rfl⟩:=Fz hy;rw[List.getElem_drop,<-fJ];simp only[List.length_drop]at hj;exact hi _ (by omega) (by omega)
   ·obtain⟨j,hj,rfl⟩:=Fz hy;simp only[oX]at hj;rw[List.getElem_take,<-fJ];have AZ:=lo j (by omega);rcases bA.1 hz with hz|hz
    ·rw[eb.1 hz];exact AZ
    ·obtain⟨q,hq,rfl⟩:=Fz hz;rw[List.getElem_drop,<-fJ];simp only[List.length_drop]at hq;have:=hi (i+q) (by omega) (by omega);omega
  ·rcases bA.1 hy with hy|hy
   ·exact hp.2 _ (uI hy)
   ·rcases bA.1 hy with hy|hy
    ·rw[eb.1 hy];exact hv
    ·exact hp.2 _ (List.mem_of_mem_drop hy)
 by_cases hi:i<g.length
 ·simp only[bb hi,aI,aP hi,aq];refine Wp.ite (λhh=>au.2 ⟨⟨λe=>by rw[e]at hi;simp at hi,by omega⟩,λy hy=> .inr hy,λhp _=>hp⟩) λhh=>fin (.inr ⟨hi,λe=>?_⟩);rw[e]at hh;simp at hh
 ·rw[dF (show ¬(i:Int)<len g by unfold len;omega),aL (by decide)];simp only[aq,aE,aD];exact fin (.inl hi)
def lk(x:jN):Int:=pk x.fC*1024+pk x.To
def BX(P:List Part)(L:List jN):Prop:=(∀x∈L,(x.fC∈P∧x.To∈P)∧x.fC≠x.To)∧(kA P->tt lk L)
def Y6{l:List Int}{a:Int}(hs:Sr l a){P:List Part}(hP:P.length<=1000):Wp (Jc ⟨l,a⟩ P) λr=>Sr r.1 r.2.1∧r.2.2.1=P∧r.2.2.2.length<=20∧BX P r.2.2.2:=by
 unfold Jc;refine Wp.bind (Q:=λr:List jN×List Int×Int=>Sr r.2.1 r.2.2∧r.1.length<=20∧BX P r.1) ?_ λr hr=>au.2 ⟨hr.1,rfl,hr.2⟩;refine dV P.length (λk s=>∃L l a,s=((k:Int),L,l,a)∧Sr l a∧L.length<=20∧BX P L∧(kA P->∀x∈L,∀i,k<=i->i<P.length->pk x.fC<pk (gt P i))) ⟨[],l,a,rfl,hs,by simp,⟨λx hx=>(by cases hx),λ_=> .nil⟩,λ_ x hx=>(by cases hx)⟩ ?_ ?_
 ·rintro k s hk ⟨L,l,a,rfl,hs,h1,h2,h3⟩;unfold XD;simp only[bb hk,aI,aP hk,aq];refine Wp.bind (Q:=λr:List jN×List Int×Int=>Sr r.2.1 r.2.2∧r.1.length<=20∧BX P r.1∧(kA P->∀x∈r.1,∀i,k+1<=i->i<P.length->pk x.fC<pk (gt P i))) ?_ λr hr=>au.2 ⟨r.1,r.2.1,r.2.2,by rw[ba (by omega)],hr⟩;refine dV P.length (λj s=>∃L l a,s=((j:Int),L,l,a)∧Sr l a∧L.length<=20∧BX P L∧(kA P->∀x∈L,pk x.fC<pk (gt P k)∨(x.fC=gt P k∧∀i,j<=i->i<P.length->pk x.To<pk (gt P i)))) ⟨L,l,a,rfl,hs,h1,h2,λhp x hx=> .inl (h3 hp x hx k (bx _) hk)⟩ ?_ ?_
  ·rintro j s hj ⟨L,l,a,rfl,hs,h1,h2,h3⟩;unfold XC;simp only[bb hj,aI,aP hj,aq];refine Wp.bind (Q:=λr:Bool×List Int×Int=>Sr r.2.1 r.2.2∧(r.1=ab->gt P k≠gt P j∧L.length<20)) ?_ λr hr=>?_
   ·refine Wp.ite (λhh=>?_) λ_=>au.2 ⟨hs,λh=>by cases h⟩;refine Wp.ite (λh20=>?_) λ_=>au.2 ⟨hs,λh=>by cases h⟩;refine(gW hs (n:=7) (by omega) (by omega)).bind λy hy=>au.2 ⟨hy.2,λ_=>⟨λe=>?_,?_⟩⟩
    ·rw[e]at hh;simp at hh
    ·have:=jA h20;unfold len at this;omega
   ·refine Wp.bind (Q:=λL':List jN=>L'.length<=20∧BX P L'∧(kA P->∀x∈L',pk x.fC<pk (gt P k)∨(x.fC=gt P k∧∀i,j+1<=i->i<P.length->pk x.To<pk (gt P i)))) ?_ λL' hL'=>au.2 ⟨L',r.2.1,r.2.2,by rw[ba (by omega)],hr.1,hL'⟩;have df:kA P->∀x∈L,pk x.fC<pk (gt P k)∨(x.fC=gt P k∧∀i,j+1<=i->i<P.length->pk x.To<pk (gt P i)):=λhp x hx=>(h3 hp x hx).imp id λh=>⟨h.1,λi hi hl=>h.2 i (by omega) hl⟩;refine Wp.ite (λhh=>?_) λ_=>au.2 ⟨h1,h2,df⟩;obtain⟨q1,q2⟩:=hr.2 hh;rw[cK (by simp;omega)];refine au.2 ⟨by simp;omega,⟨λx hx=>?_,λhp=>?_⟩,λhp x hx=>?_⟩
    ·rcases bA.1 hx with hx|hx
     ·exact h2.1 x hx
     ·rw[eb.1 hx];exact⟨⟨dx hk,dx hj⟩,q1⟩
    ·refine List.pairwise_append.2 ⟨h2.2 hp,List.pairwise_singleton _ _,λx hx y hy=>?_⟩;rw[eb.1 hy];have b1:=(hp.2 _ ((h2.1 x hx).1.2)).bd;have b2:=(hp.2 _ (dx hj)).bd;show lk x<pk (gt P k)*1024+pk (gt P j);unfold lk;rcases h3 hp x hx with h|⟨h,h'⟩
     ·omega
     ·rw[h];have:=h' j (bx _) hj;omega
    ·rcases bA.1 hx with hx|hx
     ·exact df hp x hx
     ·rw[eb.1 hx];exact .inr ⟨rfl,λi hi hl=>hp.lt (by omega) hl⟩
  ·rintro s ⟨L,l,a,rfl,hs,h1,h2,h3⟩;unfold XC;simp only[bJ,aE,aD];refine au.2 ⟨hs,h1,h2,λhp x hx i hi hl=>?_⟩;have:=hp.lt (show k<i by omega) hl;rcases h3 hp x hx with h|⟨h,_⟩
   ·omega
   ·rw[h];exact this
 ·rintro s ⟨L,l,a,rfl,hs,h1,h2,h3⟩;unfold XD;simp only[bJ,aE,aD];exact au.2 ⟨hs,h1,h2⟩
def Af:List ByteArray:=[d_ [111,110,101],d_ [116,119,111],d_ [103,45,51],d_ [120]]
def Jk(P:List Part)(g:List Part):Prop:=(g≠[]∧∀x∈g,x∈P)∧(kA P->kA g)
def PQ(P:List Part)(G:List jk):Prop:=∃n:Nat,n<=3∧G.length<=n∧∀i,i<G.length->Af[n-i]? =aa (gt G i).Name∧Jk P (gt G i).fj
def Y8{l:List Int}{a:Int}(hs:Sr l a){P:List Part}(hP:P.length<=900):Wp (Jd ⟨l,a⟩ P) λr=>Sr r.1 r.2.1∧r.2.2.1=P∧PQ P r.2.2.2:=by
 unfold Jd;refine(gW hs (n:=4) (by omega) (by omega)).bind λy hy=>?_;obtain⟨⟨n0,n1⟩,hs⟩:=hy;obtain⟨n,hn⟩:=nu n0;have hn:y.1=(n:Int):=hn;rw[hn]at n1⊢;refine Wp.bind (Q:=λr:List jk×List Int×Int=>Sr r.2.1 r.2.2∧PQ P r.1) ?_ λr hr=>au.2 ⟨hr.1,rfl,hr.2⟩;refine tH (λs=>s.1.toNat) (λs=>∃(k:Nat) (G:List jk) (l:List Int) (a:Int),s=(((n-k:Nat):Int),G,l,a)∧k<=n∧Sr l a∧G.length=k∧∀i,i<G.length->Af[n-i]? =aa (gt G i).Name∧Jk P (gt G i).fj) (λs hs=>?_) ⟨0,[],_,_,rfl,kF _,hs,rfl,λi hi=>by simp at hi⟩ (by simp only;omega);obtain⟨k,G,l,a,rfl,hk,hs,h1,h2⟩:=hs;have stop:Sr l a∧PQ P G:=⟨hs,n,by omega,by omega,h2⟩;unfold ajZ;by_cases HC:k<n
 ·simp only[dT (show((n-k:Nat):Int)>0 by omega),aI,aq];by_cases h0:0<P.length
  ·simp only[dT (show len P>0 by unfold len;omega),aI];obtain⟨nm,hnm⟩:∃nm,Af[n-k]? =aa nm:=⟨_,List.getElem?_eq_getElem (by simp[Af];omega)⟩;rw[show idx [d_ [111,110,101],d_ [116,119,111],d_ [103,45,51],d_ [120]] ((n-k:Nat):Int)=aa nm from by rw[Ms];exact hnm];simp only[aq];refine(gW hs (n:=len P) (by unfold len;omega) (by unfold len;omega)).bind λz hz=>?_;obtain⟨⟨z0,z1⟩,hs⟩:=hz;unfold len at z1;rw[iL z0 z1];simp only[aq];have DP:=dx (l:=P) (k:=z.1.toNat) (by omega);refine Wp.bind (Q:=λr:List Int×Int×ByteArray×List Part=>Sr r.1 r.2.1∧r.2.2.1=nm∧Jk P r.2.2.2) ?_ λr hr=>?_
   ·refine dV P.length (λj s=>∃l a g,s=((j:Int),l,a,nm,g)∧Sr l a∧g.length<=j+1∧Jk P g) ⟨_,_,_,rfl,hs,by simp,⟨by simp,λx hx=>by rw[eb.1 hx];exact DP⟩,λhp=>⟨List.pairwise_singleton _ _,λx hx=>by rw[eb.1 hx];exact hp.2 _ DP⟩⟩ ?_ ?_
    ·rintro j s hj ⟨l,a,g,rfl,hs,e1,e2⟩;unfold XE;simp only[bb hj,aI,aP hj,aq];refine(gW hs (n:=4) (by omega) (by omega)).bind λw hw=>?_;refine Wp.bind (Q:=λr:ByteArray×List Part=>r.1=nm∧r.2.length<=j+2∧Jk P r.2) ?_ λr hr=>au.2 ⟨_,_,r.2,by rw[ba (by omega),<-hr.1],hw.2,hr.2⟩;refine Wp.ite (λ_=>?_) λ_=>au.2 ⟨rfl,by simp only;omega,e2⟩;refine(akV (show g.length<=1000 by omega) (gt P j)).bind λr hr=>au.2 ⟨rfl,by have:=hr.1.2;simp only;omega,⟨hr.1.1,λx hx=>?_⟩,λhp=>hr.2.2 (e2.2 hp) (hp.2 _ (dx hj))⟩;rcases hr.2.1 x hx with rfl|hx
     ·exact dx hj
     ·exact e2.1.2 x hx
    ·rintro s ⟨l,a,g,rfl,hs,e1,e2⟩;unfold XE;simp only[bJ,aE,aD];exact au.2 ⟨hs,rfl,e2⟩
   ·rw[cK (by simp;omega)];simp only[aq];refine au.2 ⟨⟨k+1,G++[⟨r.2.2.1,r.2.2.2⟩],r.1,r.2.1,?_,by omega,hr.1,by simp;omega,λi hi=>?_⟩,?_⟩
    ·rw[nT (show n-k<1000000000000000000 by omega) (by omega),Nat.sub_sub]
    ·rw[sQ (by simpa using hi)];by_cases lD:i<G.length
     ·rw[aH lD];exact h2 i lD
     ·rw[aL lD,hr.2.1];have:i=k:=by simp at hi;omega
      rw[this];exact⟨hnm,hr.2.2⟩
    ·simp only;rw[nT (show n-k<1000000000000000000 by omega) (by omega)];omega
  ·simp only[dF (show ¬len P>0 by unfold len;omega),aE,aD];exact au.2 stop
 ·simp only[dF (show ¬((n-k:Nat):Int)>0 by omega),aE,aD,aq];exact au.2 stop
structure Jo(d:dy):Prop where
 n:d.fj.length<=40
 Db:kA d.fj
 ln:d.ic.length<=20
 lks:BX d.fj d.ic
 grs:PQ d.fj d.il
def ajy{l:List Part}(hn:l.length<=1000)(h:kA l):Ij l=aa ab:=by
 have e:aJ (NP l) 1=aa (.inl ()):=dQ (λk=>((k+1:Nat):Int)) (l.length-1) (λk hk=>by
  unfold NP;obtain⟨c,hc,c1,c2,c3⟩:=LB (h.2 _ (dx (show k<l.length by omega))) (h.2 _ (dx (show k+1<l.length by omega)));have:=c1.2 (h.lt (show k<k+1 by omega) (by omega));simp only[bb (show k+1<l.length by omega),aI,aP (show k+1<l.length by omega),nT (k:=k+1) (by omega) (by omega),PS,aP (show k<l.length by omega),aq,hc,dF (show ¬c>=0 by omega),aE,aD];rw[ba (by omega)]) (by
  unfold NP;rw[dF (show ¬((l.length-1+1:Nat):Int)<len l by unfold len;omega)];rfl)
 unfold Ij;rw[e];rfl
def alK{p:Part}(h:VP p):NR p=aa ai:=by obtain⟨h1,h2,h3,h4⟩:=h;unfold NR VE;simp only[dT (show p.Kind>=1 from h1),dT h2,dT (show p.Number>=0 from h3),dT h4,aI,aq,ei]
def an5{l:List Part}(hn:l.length<=1000)(h:kA l):NS l=aa ab:=by
 have e:aJ (J_ l) 0=aa (.inl ()):=dQ (λk=>(k:Int)) l.length (λk hk=>by
  unfold J_;simp only[bb hk,aI,aP hk,aq,alK (h.2 _ (dx hk)),aE,aD];rw[ba (by omega)]) (by
  unfold J_;simp only[bJ,aE,aD])
 unfold NS Ri Q9;rw[e];simp only[aq,bw,ajy hn h];rfl
def ary{x y:jN}(h1:VP x.fC)(h2:VP x.To)(h3:VP y.fC)(h4:VP y.To)(h:lk x<lk y):∃c,NL x y=aa c∧c<0:=by
 obtain⟨c,hc,c1,c2,c3⟩:=LB h1 h3;obtain⟨e,he,e1,e2,e3⟩:=LB h2 h4;have b1:=h1.bd;have b2:=h2.bd;have b3:=h3.bd;have b4:=h4.bd;unfold lk at h;unfold NL;simp only[hc,he,LD,aq];refine⟨_,rfl,?_⟩;by_cases h0:c=0
 ·rw[aL (by omega)];have:=c2.1 h0;exact e1.2 (by omega)
 ·rw[aH h0];have:pk x.fC≠pk y.fC:=λhe=>h0 (c2.2 he);exact c1.2 (by omega)
def arx{d:dy}(h:Jo d):NM d=aa ab:=by
 obtain⟨hn,hp,rF,hl,_⟩:=h;have e1:aJ (NJ d) 0=aa (.inl ()):=dQ (λk=>(k:Int)) d.ic.length (λk hk=>by
  unfold NJ;obtain⟨⟨m1,m2⟩,m3⟩:=hl.1 _ (dx hk);simp only[bb hk,aI,aP hk,aq,M4 (show d.fj.length<=1000000 by omega),iN m1,iN m2,ei,aE,aD,show((gt d.ic k).fC.Kind==(gt d.ic k).To.Kind&&(gt d.ic k).fC.Number==(gt d.ic k).To.Number)=ai from Vm m3];rw[ba (by omega)]) (by
  unfold NJ;simp only[bJ,aE,aD])
 have e2:aJ (NQ d.ic) 1=aa (.inl ()):=dQ (λk=>((k+1:Nat):Int)) (d.ic.length-1) (λk hk=>by
  unfold NQ;have mG:k<d.ic.length:=by omega
  have eI:k+1<d.ic.length:=by omega
  have m1:=(hl.1 _ (dx mG)).1;have m2:=(hl.1 _ (dx eI)).1;have aV:lk (gt d.ic k)<lk (gt d.ic (k+1)):=by rw[fJ mG,fJ eI];exact B6.1 (hl.2 hp) k (k+1) mG eI (by omega)
  obtain⟨c,hc,c1⟩:=ary (hp.2 _ m1.1) (hp.2 _ m1.2) (hp.2 _ m2.1) (hp.2 _ m2.2) aV;simp only[bb eI,aI,aP eI,nT (k:=k+1) (by omega) (by omega),PS,aP mG,aq,hc,dF (show ¬c>=0 by omega),aE,aD];rw[ba (by omega)]) (by
  unfold NQ;rw[dF (show ¬((d.ic.length-1+1:Nat):Int)<len d.ic by unfold len;omega)];rfl)
 unfold NM VD;rw[e1,e2];rfl
def aqy:Ew (d_ [116,119,111])=aa ab:=by kernel_rfl
def aqx:Ew (d_ [103,45,51])=aa ab:=by kernel_rfl
def aqw:Ew (d_ [120])=aa ab:=by kernel_rfl
def aqK:(d_ [111,110,101]==d_ [116,119,111])=ai:=by kernel_rfl
def aqJ:(d_ [111,110,101]==d_ [103,45,51])=ai:=by kernel_rfl
def aqI:(d_ [111,110,101]==d_ [120])=ai:=by kernel_rfl
def aqH:(d_ [116,119,111]==d_ [111,110,101])=ai:=by kernel_rfl
def aqG:(d_ [116,119,111]==d_ [103,45,51])=ai:=by kernel_rfl
def aqF:(d_ [116,119,111]==d_ [120])=ai:=by kernel_rfl
def aqE:(d_ [103,45,51]==d_ [111,110,101])=ai:=by kernel_rfl
def aqD:(d_ [103,45,51]==d_ [116,119,111])=ai:=by kernel_rfl
def aqC:(d_ [103,45,51]==d_ [120])=ai:=by kernel_rfl
def aqB:(d_ [120]==d_ [111,110,101])=ai:=by kernel_rfl
def aqA:(d_ [120]==d_ [116,119,111])=ai:=by kernel_rfl
def aqz:(d_ [120]==d_ [103,45,51])=ai:=by kernel_rfl
def alE{n:Nat}(h0:1<=n)(h:n<=3){x:ByteArray}(hx:Af[n]? =aa x):Ew x=aa ab:=by
 match n,h0,h with
 |1,_,_=>cases hx;exact aqy
 |2,_,_=>cases hx;exact aqx
 |3,_,_=>cases hx;exact aqw
def aqL{i j:Nat}(hi:i<4)(hj:j<4)(bR:i≠j){x y:ByteArray}(hx:Af[i]? =aa x)(hy:Af[j]? =aa y):(x==y)=ai:=by
 match i,j,hi,hj with
 |0,0,_,_|1,1,_,_|2,2,_,_|3,3,_,_=>exact(bR rfl).elim
 |0,1,_,_=>cases hx;cases hy;exact aqK
 |0,2,_,_=>cases hx;cases hy;exact aqJ
 |0,3,_,_=>cases hx;cases hy;exact aqI
 |1,0,_,_=>cases hx;cases hy;exact aqH
 |1,2,_,_=>cases hx;cases hy;exact aqG
 |1,3,_,_=>cases hx;cases hy;exact aqF
 |2,0,_,_=>cases hx;cases hy;exact aqE
 |2,1,_,_=>cases hx;cases hy;exact aqD
 |2,3,_,_=>cases hx;cases hy;exact aqC
 |3,0,_,_=>cases hx;cases hy;exact aqB
 |3,1,_,_=>cases hx;cases hy;exact aqA
 |3,2,_,_=>cases hx;cases hy;exact aqz
def av8{d:dy}(h:Jo d):NO d=aa ab:=by
 obtain⟨hn,hp,_,_,n,n3,hg,hG⟩:=h;have e1:aJ (NN d) 0=aa (.inl ()):=dQ (λk=>(k:Int)) d.il.length (λk hk=>by
  obtain⟨g1,⟨g2,g3⟩,g4⟩:=hG k hk;have g4:=g4 hp;have hlen:(gt d.il k).fj.length<=40:=lN (LR g4.1.nodup g3) hn;have hE:Kv (d.il.take k) (gt d.il k)=aa ai:=by
   have oF:(d.il.take k).length=k:=by rw[oX];omega
   have e:aJ (J' (d.il.take k) (gt d.il k)) 0=aa (.inl ()):=dQ (λj=>(j:Int)) (d.il.take k).length (λj hj=>by
    rw[oF]at hj;unfold J' VC;have nN:j<(d.il.take k).length:=by omega
    have ej:gt (d.il.take k) j=gt d.il j:=by rw[fJ nN,fJ (by omega),List.getElem_take]
    simp only[bb nN,aI,aP nN,aq,ej,aqL (show n-j<4 by omega) (show n-k<4 by omega) (by omega) (hG j (by omega)).1 g1,aE,aD];rw[ba (by omega)]) (by
    unfold J';simp only[bJ,aE,aD])
   unfold Kv Ra;rw[e];rfl
  have hF:Ku (gt d.il k).fj d=aa ai:=by
   have e:aJ (J9 (gt d.il k).fj d) 0=aa (.inl ()):=dQ (λj=>(j:Int)) (gt d.il k).fj.length (λj hj=>by
    unfold J9 VB;simp only[bb hj,aI,aP hj,aq,M4 (show d.fj.length<=1000000 by omega),iN (g3 _ (dx hj)),ei,aE,aD];rw[ba (by omega)]) (by
    unfold J9;simp only[bJ,aE,aD])
   unfold Ku Q8;rw[e];rfl
  have h0:(len (gt d.il k).fj==0)=ai:=by have:=List.length_pos_iff.2 g2;exact dI (by unfold len;omega)
  unfold NN;rw[show dK d.il 0 (k:Int)=aa (d.il.take k)from CS (by omega)];simp only[bb hk,aI,aP hk,aq,alE (show 1<=n-k by omega) (by omega) g1,ei,aE,aD,hE,h0,hF,ajy (show(gt d.il k).fj.length<=1000 by omega) g4];rw[ba (by omega)]) (by
  unfold NN;simp only[bJ,aE,aD]) (by omega)
 unfold NO;rw[e1];rfl
def V0{d:dy}(h:Jo d):Ex d=aa 0:=by have h1:=h.n;have h2:=h.ln;obtain⟨n,h3,h4,_⟩:=h.grs;unfold Ex;simp only[dF (show ¬len d.fj>40 by unfold len;omega),dF (show ¬len d.ic>60 by unfold len;omega),dF (show ¬len d.il>6 by unfold len;omega),aE,aD,aq,an5 (show d.fj.length<=1000 by omega) h.Db,arx h,av8 h,ei]
end Rx
namespace Rx
open Classical
section
variable {l:List Int} {a:Int}
def alx(hs:Sr l a):Wp (PD ⟨l,a⟩) λr=>Sr r.2.2.1 r.2.2.2:=by unfold PD;refine(dW hs (by simp) (by simp)).bind λx h1=>(dW h1.2 (by simp) (by simp)).bind λy h2=>?_;unfold kO;rw[aL (by omega)];exact au.2 h2.2
def akZ(hs:Sr l a):Wp (Pl ⟨l,a⟩) λr=>Sr r.2.2.2.2.2.1 r.2.2.2.2.2.2.1:=by
 unfold Pl;refine(pZ hs (by omega) (by omega) (by omega) (by omega)).bind λx1 h=>(gW h.2 (by omega) (by omega)).bind λx2 h=>(dW h.2 (by simp) (by simp)).bind λx3 h=>(dW h.2 (by simp) (by simp)).bind λx4 h=>(dW h.2 (by simp) (by simp)).bind λx5 h=>(gW h.2 (by omega) (by omega)).bind λx6 h6=>?_;obtain⟨⟨n0,n1⟩,hs6⟩:=h6;obtain⟨n,hn⟩:=nu n0;have hn:x6.1=(n:Int):=hn;rw[hn]at n1⊢;refine Wp.bind (Q:=λr=>Sr r.1 r.2.1) ?_ λr hr=>au.2 hr;refine dV n (λk s=>∃l a F,s=(((n-k:Nat):Int),l,a,x1.1,x2.1,x3.1,x4.1,x5.1,F)∧Sr l a∧F.length<=k) ⟨_,_,[],rfl,hs6,kF _⟩ ?_ ?_
 ·rintro k s hk ⟨l,a,F,rfl,e1,e2⟩;unfold XI;simp only[dT (show((n-k:Nat):Int)>0 by omega),aI];refine(alx e1).bind λr hr=>?_;rw[cK (by simp;omega)];refine au.2 ⟨_,_,F++[⟨r.1,r.2.1⟩],?_,hr,by rw[cW];exact Nat.succ_le_succ e2⟩;rw[nT (show n-k<1000000000000000000 by omega) (by omega),Nat.sub_sub]
 ·rintro s ⟨l,a,F,rfl,e1,e2⟩;unfold XI;simp only[dF (show ¬((n-n:Nat):Int)>0 by omega),aE,aD];exact au.2 e1
def ak2(hs:Sr l a):Wp (Pn ⟨l,a⟩ 2) λr=>r.2.2.2.2.length<=8∧Sr r.2.2.1 r.2.2.2.1:=by
 unfold Pn;rw[show W (2+1)=3 from rfl];refine(dW hs (by simp) (by simp)).bind λx1 h=>(dW h.2 (by simp) (by simp)).bind λx2 h=>(gW h.2 (by omega) (by omega)).bind λx3 h3=>?_;obtain⟨⟨n0,n1⟩,hs3⟩:=h3;obtain⟨n,hn⟩:=nu n0;have hn:x3.1=(n:Int):=hn;rw[hn]at n1⊢;refine Wp.bind (Q:=λr=>r.2.2.2.2.length<=n∧Sr r.1 r.2.1) ?_ λr hr=>au.2 ⟨by have:=hr.1;simp only;omega,hr.2⟩;refine dV n (λk s=>∃l a M,s=(((n-k:Nat):Int),l,a,x1.1,x2.1,M)∧Sr l a∧M.length<=k) ⟨_,_,[],rfl,hs3,kF _⟩ ?_ ?_
 ·rintro k s hk ⟨l,a,M,rfl,e1,e2⟩;unfold XL;simp only[dT (show((n-k:Nat):Int)>0 by omega),aI];refine(akZ e1).bind λr hr=>?_;rw[cK (by simp;omega)];refine au.2 ⟨_,_,M++[⟨r.1,r.2.1,r.2.2.1,r.2.2.2.1,r.2.2.2.2.1,r.2.2.2.2.2.2.2⟩],?_,hr,by rw[cW];exact Nat.succ_le_succ e2⟩;rw[nT (show n-k<1000000000000000000 by omega) (by omega),Nat.sub_sub]
 ·rintro s ⟨l,a,M,rfl,e1,e2⟩;unfold XL;simp only[dF (show ¬((n-n:Nat):Int)>0 by omega),aE,aD];exact au.2 ⟨e2,e1⟩
def alv(hs:Sr l a):Wp (PB ⟨l,a⟩) λr=>Sr r.2.2.2.1 r.2.2.2.2.1∧r.2.2.2.2.2.2.2.length<=5:=by
 unfold PB;refine(pZ hs (lo:=1) (hi:=4) (by omega) (by omega) (by omega) (by omega)).bind λy hy=>?_;obtain⟨nb,l,a⟩:=y;obtain⟨AW,hs⟩:=hy;simp only at AW hs⊢;refine(dW hs (by simp) (by simp)).bind λy hy=>?_;obtain⟨ph,l,a,z⟩:=y;obtain⟨hph,hs⟩:=hy;simp only[cu,jQ,kE]at hph hs⊢;refine(dW hs (by simp) (by simp)).bind λy hy=>?_;obtain⟨fr,l,a,z⟩:=y;obtain⟨eE,hs⟩:=hy;simp only[cu,jQ,kE]at eE hs⊢;refine Wp.bind (Q:=λx=>∃l a br,x=(l,a,nb,ph,fr,br)∧Sr l a∧br.length<=3) ?_ λx hx=>?_
 ·refine dV (nb-1).toNat (λk s=>∃l a br,s=((k:Int)+1,l,a,nb,ph,fr,br)∧Sr l a∧br.length<=k) ⟨_,_,_,rfl,hs,bx _⟩ ?_ ?_
  ·rintro k s hk ⟨l,a,br,rfl,hs,h2⟩;unfold XX;simp only[dT (c:=(k:Int)+1<nb) (by omega),aI];refine(gW hs (n:=6) (by omega) (by omega)).bind λy hy=>?_;obtain⟨y,l,a⟩:=y;obtain⟨hy,hs⟩:=hy;simp only at hy hs⊢;refine Wp.bind (Q:=λx=>∃l a br,x=(l,a,nb,ph,fr,br)∧Sr l a∧br.length<=k+1) ?_ λx hx=>?_
   ·refine Wp.ite (λ_=>?_) (λ_=>au.2 ⟨_,_,_,rfl,hs,by omega⟩);refine(gW hs (n:=(k:Int)+1) (by omega) (by omega)).bind λz hz=>?_;obtain⟨z,l,a⟩:=z;obtain⟨hz,hs⟩:=hz;simp only at hz hs⊢;rw[cK (by simp;omega)];exact au.2 ⟨_,_,_,rfl,hs,by simp;omega⟩
   ·obtain⟨l,a,W8,rfl,hs,h4⟩:=hx;refine au.2 ⟨l,a,W8,?_,hs,h4⟩;try simp only
    rw[bZ (by omega) (by omega)];rfl
  ·rintro s ⟨l,a,br,rfl,hs,h2⟩;unfold XX;simp only[dF (c:=(((nb-1).toNat:Nat):Int)+1<nb) (by omega),aE,aD];exact au.2 ⟨_,_,_,rfl,hs,by omega⟩
 obtain⟨l,a,br1,rfl,hs,dZ⟩:=hx;try simp only
 refine Wp.bind (Q:=λx=>∃c l a,x=(c,l,a)∧Sr l a∧(c=ab->2<nb)) ?_ λx py=>?_
 ·refine Wp.ite (λh=>?_) (λ_=>au.2 ⟨_,_,_,rfl,hs,λh=>by cases h⟩);refine(gW hs (n:=2) (by omega) (by omega)).bind λy hy=>?_;obtain⟨y,l,a⟩:=y;exact au.2 ⟨_,_,_,rfl,hy.2,λ_=>jA h⟩
 obtain⟨more,l,a,rfl,hs,py⟩:=py;try simp only
 refine Wp.bind (Q:=λx=>∃br,x=(nb,ph,fr,br)∧br.length<=4) ?_ λx AD=>?_
 ·refine Wp.ite (λh=>?_) (λ_=>au.2 ⟨_,rfl,by omega⟩);have h2:=py h;rw[cK (by simp;omega),bZ (x:=nb-1) (by omega) (by omega)];exact au.2 ⟨_,rfl,by simp;omega⟩
 obtain⟨br2,rfl,Hf⟩:=AD;try simp only
 refine(gW hs (n:=5) (by omega) (by omega)).bind λy hy=>?_;obtain⟨m,l,a⟩:=y;obtain⟨hy,hs⟩:=hy;simp only at hy hs⊢;refine Wp.bind (Q:=λx=>∃l a br S,x=(l,a,nb,ph,fr,br,S)∧Sr l a∧br.length<=8∧S.length<=4) ?_ λx hx=>?_
 ·refine dV m.toNat (λk s=>∃l a br S,s=(m-k,l,a,nb,ph,fr,br,S)∧Sr l a∧br.length<=4+k∧S.length=k) ⟨l,a,br2,[],by simp,hs,by simpa using Hf,rfl⟩ ?_ ?_
  ·rintro k s hk ⟨l,a,br,S,rfl,hs,h2,h3⟩;unfold XW;simp only[dT (c:=m-(k:Int)>0) (by omega),aI];refine(gW hs (n:=nb) (by omega) (by omega)).bind λy tZ=>?_;obtain⟨c,l,a⟩:=y;obtain⟨tZ,hs⟩:=tZ;simp only at tZ hs⊢;rw[cK (xs:=br) (by simp;omega)];simp only[aq];refine(dW hs (by simp) (by simp)).bind λy hr=>?_;obtain⟨r,l,a,z⟩:=y;obtain⟨hr,hs⟩:=hr;simp only[cu,jQ,kE]at hr hs⊢;refine(dW hs (by simp) (by simp)).bind λy hl=>?_;obtain⟨le,l,a,z⟩:=y;obtain⟨hl,hs⟩:=hl;simp only[cu,jQ,kE]at hl hs⊢;refine(dW hs (by simp) (by simp)).bind λy ht=>?_;obtain⟨st,l,a,z⟩:=y;obtain⟨ht,hs⟩:=ht;simp only[cu,jQ,kE]at ht hs⊢;rw[cK (xs:=S) (by simp;omega)];simp only[aq];refine au.2 ⟨l,a,br++[⟨2,c,len S⟩],S++[⟨r,le,st⟩],?_,hs,by simp;omega,by simp;omega⟩;rw[bZ (by omega) (by omega),show m-(k:Int)-1=m-((k+1:Nat):Int)from by omega]
  ·rintro s ⟨l,a,br,S,rfl,hs,h2,h3⟩;unfold XW;simp only[dF (c:=m-((m.toNat:Nat):Int)>0) (by omega),aE,aD];exact au.2 ⟨_,_,_,_,rfl,hs,by omega,by omega⟩
 obtain⟨l,a,br3,S,rfl,hs,g2,g3⟩:=hx;try simp only
 refine(gW hs (n:=6) (by omega) (by omega)).bind λy tZ=>?_;obtain⟨m2,l,a⟩:=y;obtain⟨tZ,hs⟩:=tZ;simp only at tZ hs⊢;refine Wp.bind (Q:=λx=>∃l a br C,x=(l,a,nb,ph,fr,br,C)∧Sr l a∧br.length<=18∧C.length<=5) ?_ λx hx=>?_
 ·refine dV m2.toNat (λk s=>∃l a br C,s=(m2-k,l,a,nb,ph,fr,br,C)∧Sr l a∧br.length<=8+2*k∧C.length=k) ⟨l,a,br3,[],by simp,hs,by simpa using g2,rfl⟩ ?_ ?_
  ·rintro k s hk ⟨l,a,br,C,rfl,hs,h2,h3⟩;unfold XV;simp only[dT (c:=m2-(k:Int)>0) (by omega),aI];refine(gW hs (n:=nb) (by omega) (by omega)).bind λy Tu=>?_;obtain⟨c,l,a⟩:=y;obtain⟨Tu,hs⟩:=Tu;simp only at Tu hs⊢;rw[cK (xs:=br) (by simp;omega)];simp only[aq];refine Wp.bind (Q:=λx=>∃c l a,x=(c,l,a)∧Sr l a∧(c=ab->1<nb)) ?_ λx He=>?_
   ·refine Wp.ite (λh=>?_) (λ_=>au.2 ⟨_,_,_,rfl,hs,λh=>by cases h⟩);refine(gW hs (n:=4) (by omega) (by omega)).bind λy hy=>?_;obtain⟨y,l,a⟩:=y;exact au.2 ⟨_,_,_,rfl,hy.2,λ_=>jA h⟩
   obtain⟨two,l,a,rfl,hs,He⟩:=He;try simp only
   refine Wp.bind (Q:=λx=>∃br,x=(nb,ph,fr,br)∧br.length<=8+2*(k+1)) ?_ λx hx7=>?_
   ·refine Wp.ite (λh=>?_) (λ_=>au.2 ⟨_,rfl,by simp;omega⟩);have AW:=He h;have e1:kO (W (c+1)) nb=aa ((c+1)% nb):=by rw[bZ (by omega) (by omega),RW (by omega) (by omega)]
    rw[e1];simp only[aq];rw[cK (by simp;omega)];exact au.2 ⟨_,rfl,by simp;omega⟩
   obtain⟨W8,rfl,uo⟩:=hx7;try simp only
   refine(dW hs (by simp) (by simp)).bind λy hl=>?_;obtain⟨lo,l,a,z⟩:=y;obtain⟨hl,hs⟩:=hl;simp only[cu,jQ,kE]at hl hs⊢;rw[zO (by omega) (by omega) (by omega)];simp only[aq];refine(dW hs (by simp) (by simp)).bind λy hle=>?_;obtain⟨le,l,a,z⟩:=y;obtain⟨hle,hs⟩:=hle;simp only[cu,jQ,kE]at hle hs⊢;refine(gW hs (n:=3) (by omega) (by omega)).bind λy TR=>?_;obtain⟨pr,l,a⟩:=y;obtain⟨TR,hs⟩:=TR;simp only at TR hs⊢;refine(pZ hs (lo:= -1) (hi:=2) (by omega) (by omega) (by omega) (by omega)).bind λy TE=>?_;obtain⟨th,l,a⟩:=y;obtain⟨TE,hs⟩:=TE;simp only at TE hs⊢;refine Wp.bind (Q:=λx=>∃c l a,x=(c,l,a)∧Sr l a∧(c=ab->0<k)) ?_ λx hx8=>?_
   ·refine Wp.ite (λh=>?_) (λ_=>au.2 ⟨_,_,_,rfl,hs,λh=>by cases h⟩);refine(gW hs (n:=4) (by omega) (by omega)).bind λy hy=>?_;obtain⟨y,l,a⟩:=y;exact au.2 ⟨_,_,_,rfl,hy.2,λ_=>by have:=jA h;unfold len at this;omega⟩
   obtain⟨nd,l,a,rfl,hs,hx8⟩:=hx8;try simp only
   refine Wp.bind (Q:=λx=>∃l a w,x=(l,a,lo,le,pr,th,w)∧Sr l a) ?_ λx hx9=>?_
   ·refine Wp.ite (λh=>?_) (λ_=>au.2 ⟨_,_,_,rfl,hs⟩);exact(alf hs (n:=len C) (by unfold len;omega) (by unfold len;omega)).bind λy hy4=>au.2 ⟨_,_,_,rfl,hy4.2⟩
   obtain⟨l,a,aqP,rfl,hs⟩:=hx9;try simp only
   rw[cK (xs:=C) (by simp;omega)];simp only[aq];refine au.2 ⟨l,a,W8,C++[⟨lo,le,pr,th,aqP⟩],?_,hs,by omega,by simp;omega⟩;rw[bZ (by omega) (by omega),show m2-(k:Int)-1=m2-((k+1:Nat):Int)from by omega]
  ·rintro s ⟨l,a,br,C,rfl,hs,h2,h3⟩;unfold XV;simp only[dF (c:=m2-((m2.toNat:Nat):Int)>0) (by omega),aE,aD];exact au.2 ⟨_,_,_,_,rfl,hs,by omega,by omega⟩
 obtain⟨l,a,br4,C,rfl,hs,k2,k3⟩:=hx;exact au.2 ⟨hs,k3⟩
def Qs(hs:Sr l a):Wp (Fa ⟨l,a⟩) λr=>Sr r.1 r.2.1:=by
 unfold Fa;rw[show mz (0:Int) 12=aa (cU 12 0)from yd (n:=12) (by omega)];simp only[aq];refine Wp.bind (Q:=λr:List Int×Int×List Int=>Sr r.1 r.2.1) ?_ λr hr=>au.2 hr;refine dV 12 (λk s=>∃l a w,s=((k:Int),l,a,w)∧Sr l a∧w.length=12) ⟨l,a,_,rfl,hs,rfl⟩ ?_ ?_
 ·rintro k s hk ⟨l,a,w,rfl,hs,h1⟩;unfold XB;simp only[dT (show(k:Int)<len (cU 12 (0:Int)) by unfold len;rw[List.length_replicate];omega),aI];refine(dW hs (w:=[0,100,(-300),700,(-1000),1000]) (by simp) (by simp)).bind λy hy=>?_;simp only[aP (show k<w.length by omega),jC (show k<w.length by omega),aq];exact au.2 ⟨_,_,_,by rw[ba (by omega)],hy.2,by simpa using h1⟩
 ·rintro s ⟨l,a,w,rfl,hs,h1⟩;unfold XB;simp only[dF (show ¬((12:Nat):Int)<len (cU 12 (0:Int)) by unfold len;rw[List.length_replicate];omega),aE,aD];exact au.2 hs
def Qu(hs:Sr l a):Wp (Fb ⟨l,a⟩) λr=>Sr r.1 r.2.1:=by unfold Fb;exact(Qs hs).bind λx h1=>(Qs h1).bind λy h2=>(Qs h2).bind λz h3=>au.2 h3
def aln(hs:Sr l a):Wp (Pw ⟨l,a⟩) λr=>Sr r.2.2.2.2.1 r.2.2.2.2.2.1:=by unfold Pw;refine(Qu hs).bind λx1 h1=>(Qu h1).bind λx2 h2=>(Qu h2).bind λx3 h3=>?_;refine(dW h3 (w:=[1000,1,30,5000,1000000]) (by simp) (by simp)).bind λx4 h4=>?_;refine(dW h4.2 (w:=[100000,1,500,1073741824]) (by simp) (by simp)).bind λx5 h5=>?_;have a4:=h4.1;have a5:=h5.1;simp only[cu,jQ,kE]at a4 a5;rw[zO (a:=x4.1) (by omega) (by omega) (by omega)];simp only[aq];refine(dW h5.2 (by simp) (by simp)).bind λx7 h7=>?_;rw[zO (a:=x5.1) (by omega) (by omega) (by omega)];simp only[aq];exact(dW h7.2 (by simp) (by simp)).bind λx9 h9=>au.2 h9.2
def ak8(hs:Sr l a):Wp (Pq ⟨l,a⟩) λr=>Sr r.2.2.2.2.1 r.2.2.2.2.2:=by unfold Pq;exact(gW hs (n:=4) (by omega) (by omega)).bind λx h=>(dW h.2 (w:=[0,10,100]) (by simp) (by simp)).bind λx h=>(dW h.2 (w:=[1,3,10]) (by simp) (by simp)).bind λx h=>(dW h.2 (w:=[0,0,2,4]) (by simp) (by simp)).bind λx h=>au.2 h.2
def ak7(hs:Sr l a):Wp (Pp ⟨l,a⟩ 3) λr=>Sr r.1 r.2.1∧r.2.2.length<=3:=by
 unfold Pp;rw[show W (3+1)=4 from rfl];refine(gW hs (n:=4) (by omega) (by omega)).bind λy hy=>?_;obtain⟨⟨n0,n1⟩,hs⟩:=hy;obtain⟨n,hn⟩:=nu n0;have hn:y.1=(n:Int):=hn;rw[hn]at n1⊢;refine Wp.bind (Q:=λr:List k_×List Int×Int=>Sr r.2.1 r.2.2∧r.1.length<=3) ?_ λr hr=>au.2 hr;refine dV n (λk s=>∃l a F,s=(((n-k:Nat):Int),F,l,a)∧Sr l a∧F.length<=k) ⟨_,_,[],rfl,hs,kF _⟩ ?_ ?_
 ·rintro k s hk ⟨l,a,F,rfl,e1,e2⟩;unfold XM;simp only[dT (show((n-k:Nat):Int)>0 by omega),aI];refine(ak8 e1).bind λr hr=>?_;rw[cK (by simp;omega)];simp only[aq];refine au.2 ⟨_,_,F++[⟨r.1,r.2.1,r.2.2.1,r.2.2.2.1⟩],?_,hr,by rw[cW];exact Nat.succ_le_succ e2⟩;rw[nT (show n-k<1000000000000000000 by omega) (by omega),Nat.sub_sub]
 ·rintro s ⟨l,a,F,rfl,e1,e2⟩;unfold XM;simp only[dF (show ¬((n-n:Nat):Int)>0 by omega),aE,aD];exact au.2 ⟨e1,by simp only;omega⟩
def alo(hs:Sr l a):Wp (Px ⟨l,a⟩) λr=>Sr r.2.2.2.2.2.2.2.2.2.1 r.2.2.2.2.2.2.2.2.2.2:=by unfold Px;exact(dW hs (by simp) (by simp)).bind λx h=>(dW h.2 (by simp) (by simp)).bind λx h=>(dW h.2 (by simp) (by simp)).bind λx h=>(dW h.2 (by simp) (by simp)).bind λx h=>(dW h.2 (by simp) (by simp)).bind λx h=>(dW h.2 (by simp) (by simp)).bind λx h=>(dW h.2 (by simp) (by simp)).bind λx h=>(dW h.2 (by simp) (by simp)).bind λx h=>(dW h.2 (by simp) (by simp)).bind λx h=>au.2 h.2
def alu(hs:Sr l a):Wp (PA ⟨l,a⟩) λr=>Sr r.2.2.2.2.1 r.2.2.2.2.2:=by unfold PA;exact(dW hs (by simp) (by simp)).bind λx h=>(dW h.2 (by simp) (by simp)).bind λx h=>(dW h.2 (by simp) (by simp)).bind λx h=>(dW h.2 (by simp) (by simp)).bind λx h=>au.2 h.2
def ald(hs:Sr l a):Wp (Pv ⟨l,a⟩) λr=>Sr r.2.2.2.2.2.2.2.1 r.2.2.2.2.2.2.2.2:=by
 unfold Pv;refine Wp.bind (Q:=λr:ByteArray×List Int×Int×List ByteArray=>Sr r.2.1 r.2.2.1) ?_ λx h=>?_
 ·unfold XJ;refine(gW hs (n:=len [d_ [100,114,105,108,108],d_ [100,105,118,101],d_ [97,45,49]]) (by simp[len]) (by simp[len])).bind λy hy=>?_;rw[iL hy.1.1 (by have:=hy.1.2;unfold len at this;omega)];exact au.2 hy.2
 ·exact(pZ h (lo:=1) (hi:=3) (by omega) (by omega) (by omega) (by omega)).bind λx h=>(alu h.2).bind λx h=>(dW h (by simp) (by simp)).bind λx h=>au.2 h.2
def Y3(hs:Sr l a){n:Int}(h1:n<=1000):Wp (Je ⟨l,a⟩ n 2) λr=>Sr r.1 r.2.1∧r.2.2.length<=n.toNat:=by
 unfold Je;refine Wp.bind (Q:=λr:List Int×List Int×Int=>Sr r.2.1 r.2.2∧r.1.length<=n.toNat) ?_ λr hr=>au.2 hr;refine dV n.toNat (λk s=>∃l a w,s=((k:Int),w,l,a)∧Sr l a∧w.length<=k) ⟨l,a,[],rfl,hs,bx _⟩ ?_ ?_
 ·rintro k s hk ⟨l,a,w,rfl,hs,h1⟩;unfold XK;simp only[dT (show(k:Int)<n by omega),aI];refine(gW hs (n:=2) (by omega) (by omega)).bind λy hy=>?_;refine Wp.bind (Q:=λw:List Int=>w.length<=k+1) ?_ λw hw=>au.2 ⟨_,_,w,by rw[ba (by omega)],hy.2,hw⟩;refine Wp.ite (λ_=>?_) λ_=>au.2 (by omega);rw[cK (by simp;omega)];exact au.2 (by simp;omega)
 ·rintro s ⟨l,a,w,rfl,hs,h1⟩;unfold XK;simp only[dF (show ¬((n.toNat:Nat):Int)<n by omega),aE,aD];exact au.2 ⟨hs,h1⟩
def aqR(i:Int):∃x,KT (d_ [115]) (xp (λx4:U8=>x4.n) [U8.mk (ru IntKind.u8 (W (97+i)))])=aa x:=by have h:(xp (λx4:U8=>x4.n) [U8.mk (ru IntKind.u8 (W (97+i)))]).size=1:=rfl;have h2:(d_ [115]).size=1:=rfl;exact⟨_,aH (by rw[h,h2];omega)⟩
def ak3(hs:Sr l a):Wp (Po ⟨l,a⟩) λr=>Sr r.1 r.2.1:=by
 unfold Po;refine Wp.bind (Q:=λr:List Int×Int×List ns=>Sr r.1 r.2.1) ?_ λr hr=>au.2 hr;refine tH (λs=>12-s.1.toNat) (λs=>∃(k:Nat) (l:List Int) (a:Int) (S:List ns),s=((k:Int),l,a,S)∧k<=12∧Sr l a∧S.length<=k) (λs hs=>?_) ⟨0,l,a,[],rfl,by omega,hs,bx _⟩ (by simp only;omega);obtain⟨k,l,a,S,rfl,hk,hs,h1⟩:=hs;unfold aj0;refine Wp.bind (Q:=λr:Bool×List Int×Int=>Sr r.2.1 r.2.2) ?_ λr hr=>?_
 ·refine(gW hs (n:=5) (by omega) (by omega)).bind λy hy=>?_;exact Wp.ite (λ_=>au.2 hy.2) λ_=>au.2 hy.2
 refine Wp.ite (λ_=>?_) λ_=>au.2 hr;refine Wp.ite (λ_=>au.2 hr) λD8=>?_;have D8:(k:Int)≠12:=by simpa using D8
 obtain⟨x,hx⟩:=aqR (k:Int);refine Wp.pM hx ?_;refine(dW hr (by simp) (by simp)).bind λx6 h6=>?_;refine(pZ h6.2 (lo:=1) (hi:=3) (by omega) (by omega) (by omega) (by omega)).bind λx7 h7=>?_;refine(Y3 h7.2 (n:=(k:Int)) (by omega)).bind λx8 h8=>?_;rw[cK (by simp;omega)];simp only[aq];rw[ba (by omega)];exact au.2 ⟨⟨k+1,_,_,_,rfl,by omega,h8.1,by simp;omega⟩,by simp only;omega⟩
def aly(hs:Sr l a):Wp (PE ⟨l,a⟩) λr=>Sr r.2.1 r.2.2:=by unfold PE;exact(dW hs (by simp) (by simp)).bind λx h=>au.2 h.2
def alp(hs:Sr l a):Wp (Py ⟨l,a⟩) λr=>(-60<=r.1∧r.1<=60)∧(-60<=r.2.1∧r.2.1<=60)∧-900<=r.2.2.1∧r.2.2.1<=900:=by unfold Py;refine(pZ hs (by omega) (by omega) (by omega) (by omega)).bind λx1 h1=>?_;refine(pZ h1.2 (by omega) (by omega) (by omega) (by omega)).bind λx2 h2=>?_;exact(pZ h2.2 (by omega) (by omega) (by omega) (by omega)).bind λx3 h3=>au.2 ⟨h1.1,h2.1,h3.1⟩
def akW(hs:Sr l a):Wp (Pk ⟨l,a⟩) λr=>Sr r.2.2.2.2.2.2.2.2.2.2.2.2.2.2.2.2.2.2.2.2.2.2.2.2.2.2.2.2.2.2.2.2.1 r.2.2.2.2.2.2.2.2.2.2.2.2.2.2.2.2.2.2.2.2.2.2.2.2.2.2.2.2.2.2.2.2.2.1∧vT ⟨r.2.2.2.2.2.2.2.2.2.1,r.2.2.2.2.2.2.2.2.2.2.1,r.2.2.2.2.2.2.2.2.2.2.2.1⟩:=by
 unfold Pk;refine(aln hs).bind λx1 h1=>?_;refine(ak2 h1).bind λx2 h2=>?_;refine(alv h2.2).bind λx3 h3=>?_;refine(ak0 h3.1).bind λx4 h4=>?_;refine(ak7 h4.2).bind λx5 h5=>?_;refine(alo h5.1).bind λx6 h6=>?_;refine(dW h6 (by simp) (by simp)).bind λx7 h7=>?_;refine(ald h7.2).bind λx8 h8=>?_;refine(ak3 h8).bind λx9 h9=>?_;refine(pZ h9 (by omega) (by omega) (by omega) (by omega)).bind λbf oH=>?_;refine(pZ oH.2 (by omega) (by omega) (by omega) (by omega)).bind λbp Nc=>?_;refine(aly Nc.2).bind λbK D8=>?_;have hc:=h3.2;have ht:=h2.1;refine Wp.bind (Q:=λr:List Int×Int×List Consumer=>Sr r.1 r.2.1∧r.2.2.length<=5) ?_ λde UY=>?_
 ·refine dV x3.2.2.2.2.2.2.2.length (λk s=>∃l a C,s=((k:Int),l,a,C)∧Sr l a∧C.length=x3.2.2.2.2.2.2.2.length) ⟨_,_,_,rfl,D8,rfl⟩ ?_ ?_
  ·rintro k s hk ⟨l,a,C,rfl,hs,e1⟩;unfold XH;simp only[bb hk,aI];rw[bZ (x:=len x2.2.2.2.2-1) (by unfold len;omega) (by unfold len;omega)];refine(pZ hs (lo:= -1) (hi:=len x2.2.2.2.2-1) (by unfold len;omega) (by omega) (by unfold len;omega) (by unfold len;omega)).bind λy hy=>?_;simp only[aP (show k<C.length by omega),jC (show k<C.length by omega),aq];exact au.2 ⟨_,_,_,by rw[ba (by omega)],hy.2,by simpa using e1⟩
  ·rintro s ⟨l,a,C,rfl,hs,e1⟩;unfold XH;simp only[bJ,aE,aD];exact au.2 ⟨hs,by simp only;omega⟩
 refine Wp.bind (Q:=λr:List Part×List Int×Int=>Sr r.2.1 r.2.2∧r.1.length<=30) ?_ λke h26=>?_
 ·refine dV 10 (λk s=>∃l a C,s=((k:Int),C,l,a)∧Sr l a∧C.length<=3*k) ⟨_,_,[],rfl,UY.1,kF _⟩ ?_ ?_
  ·rintro k s hk ⟨l,a,C,rfl,hs,e1⟩;unfold XG;generalize hw:[0,len x3.2.2.2.2.2.2.1,len x3.2.2.2.2.2.1,x3.1,len de.2.2,len x2.2.2.2.2,len x5.2.2,0,0,2]=w;have Mv:w.length=10:=by rw[<-hw];rfl
   simp only[bb (show k<w.length by omega),aI,aP (show k<w.length by omega),aq];refine(Y3 hs (n:=eA (gt w k) 3) (by unfold eA;split<;>omega)).bind λy hy=>?_;have h3:y.2.2.length<=3:=lN hy.2 (by unfold eA;split<;>omega);refine Wp.bind (Q:=λr:List Part=>r.length<=3*(k+1)) ?_ λr hr=>au.2 ⟨_,_,r,by rw[ba (by omega)],hy.1,hr⟩;refine dV y.2.2.length (λj s=>∃D,s=((j:Int),D)∧D.length<=3*k+j) ⟨C,rfl,e1⟩ ?_ ?_
   ·rintro j s hj ⟨D,rfl,d1⟩;unfold XF;simp only[bb hj,aI,aP hj,aq];rw[cK (by simp;omega)];exact au.2 ⟨_,by rw[ba (by omega)],by simp;omega⟩
   ·rintro s ⟨D,rfl,d1⟩;unfold XF;simp only[bJ,aE,aD];exact au.2 (by omega)
  ·rintro s ⟨l,a,C,rfl,hs,e1⟩;unfold XG;rw[aL (by simp[len])];exact au.2 ⟨hs,e1⟩
 refine(Y6 h26.1 (show ke.1.length<=1000 by omega)).bind λig h27=>?_;rw[h27.2.1];refine(Y8 h27.1 (show ke.1.length<=900 by omega)).bind λiU h28=>?_;exact au.2 ⟨h28.1,h4.1⟩
def qP:List Part:=[Part.mk 1 0,Part.mk 1 1,Part.mk 5 0,Part.mk 5 1,Part.mk 6 0,Part.mk 9 0]
def aa2:kA qP:=by
 refine⟨?_,λx hx=>?_⟩
 ·unfold tt qP;simp[pk]
 ·unfold qP at hx;simp only[cu,jQ,kE]at hx;rcases hx with rfl|rfl|rfl|rfl|rfl|rfl<;>exact⟨by decide,by decide,by decide,by decide⟩
def ak_(hs:Sr l a):Wp (Pr ⟨l,a⟩) λr=>Sr r.2.2.2.2.2.2.2.2.2.2.2.2.2.2.2.2.2.2.2.2.2.2.2.2.2.2.2.2.2.2.2.2.1 r.2.2.2.2.2.2.2.2.2.2.2.2.2.2.2.2.2.2.2.2.2.2.2.2.2.2.2.2.2.2.2.2.2.1∧rV ⟨r.2.2.2.2.2.2.1,r.2.2.2.2.2.2.2.2.2.2.2.2.2.2.2.2.2.2.2.2.2.2.2.2.2.2.2.2.2.2.2.2.2.2.2.2.2.2.2.2.2.2.2.2.1,r.2.2.2.2.2.2.2.2.2.2.2.2.2.2.2.2.2.2.2.2.2.2.2.2.2.2.2.2.2.2.2.2.2.2.2.2.2.2.2.2.2.2.2.2.2.1,r.2.2.2.2.2.2.2.2.2.2.2.2.2.2.2.2.2.2.2.2.2.2.2.2.2.2.2.2.2.2.2.2.2.2.2.2.2.2.2.2.2.2.2.2.2.2.1,r.2.2.2.2.2.2.2.1,r.2.2.2.2.2.2.2.2.1⟩∧vT ⟨r.2.2.2.2.2.2.2.2.2.1,r.2.2.2.2.2.2.2.2.2.2.1,r.2.2.2.2.2.2.2.2.2.2.2.1⟩∧vY ⟨r.2.2.2.2.1,r.2.2.2.2.2.1,r.2.2.2.2.2.2.2.2.2.2.2.2.2.2.2.2.2.2.2.2.2.2.2.2.2.2.2.2.2.2.2.2.2.2.2.2.2.2.2.2.2.2.2.1⟩∧Jo ⟨r.2.2.2.2.2.2.2.2.2.2.2.2.2.2.2.2.2.2.2.2.2.2.2.2.2.2.2.2.2.2.2.2.2.2.2.2.2.2.2.2.2.2.2.2.2.2.2.1,r.2.2.2.2.2.2.2.2.2.2.2.2.2.2.2.2.2.2.2.2.2.2.2.2.2.2.2.2.2.2.2.2.2.2.2.2.2.2.2.2.2.2.2.2.2.2.2.2.1,r.2.2.2.2.2.2.2.2.2.2.2.2.2.2.2.2.2.2.2.2.2.2.2.2.2.2.2.2.2.2.2.2.2.2.2.2.2.2.2.2.2.2.2.2.2.2.2.2.2.1⟩∧r.2.2.2.2.2.2.2.2.2.2.2.2.2.2.2.2.2.2.2.2.2.2.2.2.2.2.2.2.2.2.2.2.2.2.2.2.2.2.2.2.2.2.2.2.2.2.2.1=qP:=by
 unfold Pr;refine(akW hs).bind λx1 h1=>?_;obtain⟨hs,hv⟩:=h1;refine Wp.bind (Q:=λr=>∃l a br S,r=(l,a,2,1800,50,br,S)∧Sr l a∧cE (bd 2 br S [])∧br.length=3∧S.length=2∧∀x∈S,x.ik=100∧mJ x) ?_ λx6 h6=>?_
 ·refine dV 2 (λk s=>∃l a br S,s=((k:Int),l,a,2,1800,50,br,S)∧Sr l a∧cE (bd 2 br S [])∧br.length=1+k∧S.length=k∧∀x∈S,x.ik=100∧mJ x) ⟨_,_,[⟨1,0,1⟩],[],rfl,hs,cE.tie (br:=[]) (S:=[]) (C:=[]) ⟨λk hk=>absurd hk (by simp),λj hj=>absurd hj (by simp),λj hj=>absurd hj (by simp)⟩ (by omega) (by omega) (by omega),rfl,rfl,λx hx=>by cases hx⟩ ?_ ?_
  ·rintro k s hk ⟨l,a,br,S,rfl,hs,e1,e2,e3,e4⟩;unfold XO;simp only[dT (show(k:Int)<2 by omega),aI];rw[cK (by simp;omega)];simp only[aq];refine(gW hs (n:=3) (by omega) (by omega)).bind λy hy=>?_;rw[cK (by simp;omega)];simp only[aq];refine au.2 ⟨_,_,br++[⟨2,(k:Int),(k:Int)⟩],S++[⟨100,0,y.1⟩],by rw[ba (by omega)],hy.2,?_,by simp;omega,by simp;omega,λx hx=>?_⟩
   ·have:=e1.src (a:=(k:Int)) (by omega) (by omega) ⟨100,0,y.1⟩;rwa[show len S=(k:Int) by unfold len;omega]at this
   ·rcases bA.1 hx with hx|hx
    ·exact e4 x hx
    ·rw[eb.1 hx];have:=hy.1;exact⟨rfl,⟨by show(1:Int)<=100;omega,by show(100:Int)<=50000;omega⟩,⟨by show(0:Int)<=0;omega,by show(0:Int)<=100;omega⟩,this.1,by show y.1<=600;omega⟩
  ·rintro s ⟨l,a,br,S,rfl,hs,e1,e2,e3,e4⟩;unfold XO;simp only[dF (show ¬((2:Nat):Int)<2 by omega),aE,aD];exact au.2 ⟨l,a,br,S,rfl,hs,e1,by omega,e3,e4⟩
 obtain⟨l,a,br,S,rfl,hs,e1,e2,e3,e4⟩:=h6;simp only;obtain⟨mk,vA⟩:∃mk:List Int->Int->List b9->List cH->List Consumer->_,mk=λl a M br C=>(l,a,x1.1,x1.2.1,x1.2.2.1,x1.2.2.2.1,(30:Int),(30:Int),x1.2.2.2.2.2.2.1,x1.2.2.2.2.2.2.2.1,x1.2.2.2.2.2.2.2.2.1,x1.2.2.2.2.2.2.2.2.2.1,x1.2.2.2.2.2.2.2.2.2.2.1,x1.2.2.2.2.2.2.2.2.2.2.2.1,x1.2.2.2.2.2.2.2.2.2.2.2.2.1,x1.2.2.2.2.2.2.2.2.2.2.2.2.2.1,x1.2.2.2.2.2.2.2.2.2.2.2.2.2.2.1,x1.2.2.2.2.2.2.2.2.2.2.2.2.2.2.2.1,x1.2.2.2.2.2.2.2.2.2.2.2.2.2.2.2.2.1,x1.2.2.2.2.2.2.2.2.2.2.2.2.2.2.2.2.2.1,x1.2.2.2.2.2.2.2.2.2.2.2.2.2.2.2.2.2.2.1,x1.2.2.2.2.2.2.2.2.2.2.2.2.2.2.2.2.2.2.2.1,x1.2.2.2.2.2.2.2.2.2.2.2.2.2.2.2.2.2.2.2.2.1,x1.2.2.2.2.2.2.2.2.2.2.2.2.2.2.2.2.2.2.2.2.2.1,x1.2.2.2.2.2.2.2.2.2.2.2.2.2.2.2.2.2.2.2.2.2.2.1,x1.2.2.2.2.2.2.2.2.2.2.2.2.2.2.2.2.2.2.2.2.2.2.2.1,x1.2.2.2.2.2.2.2.2.2.2.2.2.2.2.2.2.2.2.2.2.2.2.2.2.1,x1.2.2.2.2.2.2.2.2.2.2.2.2.2.2.2.2.2.2.2.2.2.2.2.2.2.1,x1.2.2.2.2.2.2.2.2.2.2.2.2.2.2.2.2.2.2.2.2.2.2.2.2.2.2.1,x1.2.2.2.2.2.2.2.2.2.2.2.2.2.2.2.2.2.2.2.2.2.2.2.2.2.2.2.1,x1.2.2.2.2.2.2.2.2.2.2.2.2.2.2.2.2.2.2.2.2.2.2.2.2.2.2.2.2.1,x1.2.2.2.2.2.2.2.2.2.2.2.2.2.2.2.2.2.2.2.2.2.2.2.2.2.2.2.2.2.1,x1.2.2.2.2.2.2.2.2.2.2.2.2.2.2.2.2.2.2.2.2.2.2.2.2.2.2.2.2.2.2.1,x1.2.2.2.2.2.2.2.2.2.2.2.2.2.2.2.2.2.2.2.2.2.2.2.2.2.2.2.2.2.2.2.1,(2:Int),(1800:Int),(50:Int),M,br,C):=⟨_,rfl⟩;refine Wp.bind (Q:=λr=>∃l a M br C,r=mk l a M br C∧Sr l a∧cE (bd 2 br S C)∧br.length=7∧C.length=4∧(∀j,j<C.length->(gt C j).eV=20∧lM (gt C j) j)∧M.length=4∧∀t∈M,uD t) ?_ λdG h17=>?_
 ·refine dV 4 (λk s=>∃l a M br C,s=((k:Int),mk l a M br C)∧Sr l a∧cE (bd 2 br S C)∧br.length=3+k∧C.length=k∧(∀j,j<C.length->(gt C j).eV=20∧lM (gt C j) j)∧M.length=k∧∀t∈M,uD t) ⟨l,a,[],br,[],by subst vA;rfl,hs,e1,by omega,rfl,λj hj=>absurd hj (by simp),rfl,λx hx=>by cases hx⟩ ?_ ?_
  ·rintro k s hk ⟨l,a,M,br,C,rfl,hs,f1,f2,f3,f4,f5,f6⟩;subst vA;unfold XN;simp only[dT (show(k:Int)<4 by omega),aI];rw[RW (a:=(k:Int)) (by omega) (by omega)];simp only[aq];rw[cK (by simp;omega)];simp only[aq];refine(dW hs (w:=[0,5,20]) (by simp) (by simp)).bind λbf oH=>?_;refine(gW oH.2 (n:=3) (by omega) (by omega)).bind λbp Nc=>?_;rw[cK (by simp;omega)];simp only[aq];rw[zO (a:=(k:Int)) (by omega) (by omega) (by omega)];simp only[aq];refine(dW Nc.2 (w:=[50,50,5]) (by simp) (by simp)).bind λcG D7=>?_;refine(dW D7.2 (w:=[1,2]) (by simp) (by simp)).bind λcw h15=>?_;rw[cK (by simp;omega)];simp only[aq];have E7:=oH.1;have Xu:=Nc.1;have a14:=D7.1;have a15:=h15.1;simp only[cu,jQ,kE]at E7 a14 a15;refine au.2 ⟨_,_,M++[⟨3,(k:Int)/2,40,cG.1,cw.1,[]⟩],br++[⟨3,(k:Int)% 2,(k:Int)⟩],C++[⟨20,bf.1,bp.1,(k:Int),[]⟩],by rw[ba (by omega)],h15.2,?_,by simp;omega,by simp;omega,λj hj=>?_,by simp;omega,λt ht=>?_⟩
   ·have:=f1.iO (a:=(k:Int)% 2) (by omega) (by omega) ⟨20,bf.1,bp.1,(k:Int),[]⟩;rwa[show len C=(k:Int) by unfold len;omega]at this
   ·rw[sQ (by simpa using hj)];by_cases dj:j<C.length
    ·rw[aH dj];exact f4 j dj
    ·rw[aL dj];exact⟨rfl,λi hi=>absurd hi (by simp),⟨by show(0:Int)<=20;omega,by show(20:Int)<=50000;omega⟩,⟨by show 0<=bf.1;omega,by show bf.1<=20;omega⟩,⟨Xu.1,by show bp.1<=15;omega⟩,⟨by show(-1:Int)<=k;omega,by show(k:Int)<=7;omega⟩,by show(0:Nat)<=4;omega⟩
   ·rcases bA.1 ht with ht|ht
    ·exact f6 t ht
    ·rw[eb.1 ht];exact⟨⟨⟨⟨by show(1:Int)<=3;omega,by show(3:Int)<=3;omega⟩,⟨by show 0<=(k:Int)/2;omega,by show(k:Int)/2<=1;omega⟩,⟨by show(0:Int)<=40;omega,by show(40:Int)<=5000;omega⟩,⟨by show 0<=cG.1;omega,by show cG.1<=5000;omega⟩,by show 1<=cw.1;omega,by show cw.1<=100;omega⟩,by show(0:Nat)<=4;omega⟩,λx hx=>by cases hx⟩
  ·rintro s ⟨l,a,M,br,C,rfl,hs,f1,f2,f3,f4,f5,f6⟩;subst vA;unfold XN;simp only[dF (show ¬((4:Nat):Int)<4 by omega),aE,aD];exact au.2 ⟨l,a,M,br,C,rfl,hs,f1,by omega,f3,f4,f5,f6⟩
 obtain⟨l,a,M,br,C,rfl,hs,f1,f2,f3,f4,f5,f6⟩:=h17;subst vA;simp only;refine(Y6 hs (P:=qP) (by simp[qP])).bind λde UY=>?_;obtain⟨hs,q1,q2,q3⟩:=UY;rw[q1];refine(Y8 hs (P:=qP) (by simp[qP])).bind λdP h19=>?_;obtain⟨hs,g1,g2⟩:=h19;refine au.2 ⟨hs,?_,hv,?_,?_,g1⟩
 ·exact⟨⟨by show(1:Int)<=2;omega,by show(2:Int)<=4;omega⟩,by show br.length<=18;omega,by show S.length<=4;omega,by show C.length<=5;omega,⟨⟨λk hk=>f1.1 k hk,f1.2.1,f1.2.2⟩,⟨by show(0:Int)<=1800;omega,by show(1800:Int)<=1800;omega⟩,⟨by show(0:Int)<=50;omega,by show(50:Int)<=6000;omega⟩,λk hk=>(e4 _ (dx hk)).2,λk hk=>(f4 k hk).2⟩,λx hx=>by have hx:x∈S:=hx;have:=(e4 x hx).1;omega,λx hx=>by have hx:x∈C:=hx;obtain⟨j,hj,rfl⟩:=ou hx;have:=(f4 j hj).1;omega⟩
 ·exact⟨⟨⟨by show(0:Int)<=30;omega,by show(30:Int)<=200;omega⟩,by show(1:Int)<=30;omega,by show(30:Int)<=200;omega⟩,by show M.length<=8;omega,λi hi=>f6 _ (dx hi)⟩
 ·refine⟨?_,?_,q2,?_,?_⟩
  ·simp only[g1];simp[qP]
  ·simp only[g1];exact aa2
  ·simp only[g1];exact q3
  ·simp only[g1];exact g2
end
end Rx
namespace Rx
open Classical
section
variable {b:aw} {q:ax} {tm:Int} {R:List eO} {E:List Event}
def aB2(hl:gn b)(k:Int):bsize b k<=24:=by
 have:=hl.jg;have:=hl.da;have:=hl.src;have:=hl.iO;unfold bsize;split
 ·omega
 ·split
  ·omega
  ·split
   ·omega
   ·split<;>omega
def aB3{k:Int}(h:1<=bsize b k):1<=k∧k<=4:=by
 unfold bsize at h;by_cases h1:k=1
 ·omega
 by_cases h2:k=2
 ·omega
 by_cases h3:k=3
 ·omega
 by_cases h4:k=4
 ·omega
 rw[aL h1,aL h2,aL h3,aL h4]at h;omega
def ajo(h:bj b q=0):kA q.aS:=by
 obtain⟨⟨hl,hg⟩,_,⟨hB,_⟩,_⟩:=fh.1 h;have hv:∀k,k<q.aS.length->VP (gt q.aS k):=λk hk=>by obtain⟨⟨h1,h2⟩,_⟩:=hB k hk;have h3:=aB2 hl (gt q.aS k).Kind;have h4:=aB3 (b:=b) (k:=(gt q.aS k).Kind) (by omega);exact⟨h4.1,by omega,h1,by omega⟩
 have aV:∀j i,i<j->j<q.aS.length->pk (gt q.aS i)<pk (gt q.aS j):=by
  intro j;induction j with
  |zero=>intro i hi;omega
  |succ j ih=>
   intro i hi hj;have h1:=(hB (j+1) hj).2 (by omega);rw[PS]at h1;have v1:=hv j (by omega);have v2:=hv (j+1) hj;have h2:pk (gt q.aS j)<pk (gt q.aS (j+1)):=by obtain⟨_,_,a1,a2⟩:=v1;obtain⟨_,_,c1,c2⟩:=v2;unfold before at h1;unfold pk;omega
   by_cases iM:i=j
   ·rw[iM];exact h2
   ·have:=ih i (by omega) (by omega);omega
 refine⟨B6.2 λi j hi hj iM=>?_,λx hx=>?_⟩
 ·rw[<-fJ hi,<-fJ hj];exact aV j i iM hj
 ·obtain⟨k,hk,rfl⟩:=ou hx;exact hv k hk
structure Jb(v:jM):Prop where
 gen:rV v.aw
 tab:vT v.ia
 KE:vY v.dk
 Im:Jo v.dy
 Db:v.dy.fj=qP
def Zu(v:jM)(hv:Jb v)(h:bj v.aw q=0)(hn:q.aS.length<=4):Pf (q.aS++qP) v.dy:=by
 refine⟨by rw[cW];show q.aS.length+6<=12;omega,λx hx=>?_,λx hx=>?_,by have:=hv.Im.ln;omega⟩
 ·rcases bA.1 hx with hx|hx
  ·exact(ajo h).2 x hx
  ·exact aa2.2 x hx
 ·have:=(hv.Im.lks.1 x hx).1.2;rw[hv.Db]at this;exact bA.2 (.inr this)
def alF{A l:List Int}(hA:A.length<=1000)(hl:l.length<=1000)(h:∀i,i<A.length->0<=gt A i∧gt A i<=5000):Wp (Ob A l) λr=>r.length=A.length∧∀i,i<A.length->0<=gt r i∧gt r i<=5000:=by
 unfold Ob uY;rw[cK (by simp;omega)];simp only[aq,oV];refine Wp.bind (Q:=λr:List Int=>r.length=A.length∧∀i,i<A.length->0<=gt r i∧gt r i<=5000) ?_ λr hr=>au.2 hr;refine dV l.length (λk s=>∃r,s=((k:Int),r)∧r.length=A.length∧∀i,i<A.length->0<=gt r i∧gt r i<=5000) ⟨A,rfl,rfl,h⟩ ?_ ?_
 ·rintro k s hk ⟨r,rfl,h1,h2⟩;unfold V9;simp only[bb hk,aI,aP hk,aq];refine Wp.bind (Q:=λc=>c=ab->0<=gt l k∧gt l k<(r.length:Int)) ?_ λc hc=>?_
  ·refine Wp.ite (λh1=>au.2 λh2=>?_) λ_=>au.2 λh=>by cases h
   exact⟨jA h1,jA h2⟩
  ·refine Wp.bind (Q:=λr:List Int=>r.length=A.length∧∀i,i<A.length->0<=gt r i∧gt r i<=5000) ?_ λr hr=>au.2 ⟨r,by rw[ba (by omega)],hr⟩;refine Wp.ite (λhh=>?_) λ_=>au.2 ⟨h1,h2⟩;obtain⟨c0,c1⟩:=hc hh;simp only[iL c0 c1,RD c0 c1,aq];refine au.2 ⟨by simpa using h1,λi hi=>?_⟩;rw[gH (by omega)];split
   ·omega
   ·exact h2 i hi
 ·rintro s ⟨r,rfl,h1,h2⟩;unfold V9;simp only[bJ,aE,aD];exact au.2 ⟨h1,h2⟩
def Za{v:jM}(hv:Jb v)(g:Gd v.aw q)(hn:q.aS.length<=4)(t0:0<=tm)(t1:tm<=20)(hR:BT v.aw tm R){l:List Part}(hl:l.length<=1)(hm:∀x∈l,x∈qP):Wp (yU v ⟨tm,q,R,[]⟩ [] l) λr=>r.2.1=0∧r.2.2.2.2.2.2.2.2.length=v.dk.cT.length∧∀i,i<v.dk.cT.length->0<=gt r.2.2.2.2.2.2.2.2 i∧gt r.2.2.2.2.2.2.2.2 i<=5000:=by
 have hb:=hv.gen.sm;have pF:=hv.gen.jg;have hRl:=hR.1;have hU:=Zu v hv g.1.2 hn;unfold yU;simp only[ap3 hb hv.tab g t0 (by omega) hR,V0 hv.Im,aq,mi,aE,aD];rw[ae8 (by simp) (by simp;omega)];simp only[aq,oZ,List.flatten_nil,oV,pU];refine(Y9 (V0 hv.Im) hU (by rw[cW];omega) λx hx=>?_).bind λF hF=>?_
 ·rcases bA.1 hx with hx|hx
  ·exact bA.2 (.inl hx)
  ·exact bA.2 (.inr (hm x hx))
 have hFl:=hF.1;refine Wp.bind (Q:=λr=>∃L q' E',r= .inl (L,0,tm,q'.aG,q'.aj,q'.aX,q'.aS,R,E')∧Gd v.aw q'∧L.length<=12∧E'.length<=13000000) ?_ λr hr=>?_
 ·refine dV F.length (λk s=>∃L q' E',s=((k:Int),L,0,tm,q'.aG,q'.aj,q'.aX,q'.aS,R,E')∧Gd v.aw q'∧L.length<=k∧E'.length<=1000001*k) ⟨[],q,[],rfl,g,bx _,kF _⟩ ?_ ?_
  ·rintro k s hk ⟨L,q',E',rfl,g',h1,h2⟩;unfold VU;simp only[bb hk,aI,aP hk,aq];refine Wp.bind (Q:=λr=>∃L q' E',r= .inl (L,0,tm,q'.aG,q'.aj,q'.aX,q'.aS,R,E')∧Gd v.aw q'∧L.length<=k+1∧E'.length<=1000001*(k+1)) ?_ λr hr=>?_
   ·refine Wp.bind (Q:=λL:List Int=>L.length<=k+1) ?_ λL hL=>?_
    ·refine Wp.ite (λ_=>?_) λ_=>au.2 (by omega);rw[cK (by simp;omega)];exact au.2 (by simp;omega)
    refine Wp.bind (Q:=λ_=>True) ?_ λc _=>?_
    ·refine Wp.ite (λ_=>au.2 trivial) λ_=>?_;rw[M4 (by have:=(fh.1 g.1.2).2.2.1.2;omega)];exact au.2 trivial
    refine Wp.ite (λ_=>au.2 ⟨L,q',E',rfl,g',hL,lN h2 (by rw[Nat.mul_succ];exact Nat.le_add_right _ _)⟩) λ_=>?_;refine(alc (R:=R) (E:=E') hb g' t0 (by omega) (by omega) (by omega) rfl).bind λr hr=>?_;obtain⟨q2,E2,z,rfl,g2,e2⟩:=hr;simp only[mi,aE,aD];exact au.2 ⟨L,q2,E2,rfl,g2,hL,lN e2 (by rw[Nat.mul_succ];exact Nat.add_le_add_right h2 _)⟩
   ·obtain⟨L,q2,E2,rfl,g2,e1,e2⟩:=hr;exact au.2 ⟨L,q2,E2,by rw[ba (by omega)],g2,e1,e2⟩
  ·rintro s ⟨L,q',E',rfl,g',h1,h2⟩;unfold VU;simp only[bJ,aE,aD];exact au.2 ⟨L,q',E',rfl,g',by omega,by omega⟩
 obtain⟨L,q',E',rfl,g',h1,h2⟩:=hr;simp only[bw];refine(alC (p:=q') hb g'.1 hv.KE).bind λA hA=>?_;have h8:=hv.KE.2.1;rw[hA.1];simp only[mi,aE,aD];rw[axX g'.1.1 (by omega) (by omega)];simp only[aq];refine(alF (A:=A.2) (l:=L) (by have:=hA.2.1;omega) (by omega) λi hi=>hA.2.2 i (by have:=hA.2.1;omega)).bind λr hr=>?_;exact au.2 ⟨rfl,by show r.length=_;rw[hr.1];exact hA.2.1,λi hi=>hr.2 i (by have:=hA.2.1;omega)⟩
end
end Rx
namespace Rx
open Classical
section
def Qq{l:List Int}(hl:l.length<=1000)(a c:Int):Wp (rS l a c) λr=>r=ab->∀i,i<l.length->a<=gt l i∧gt l i<=c:=by
 unfold rS Ko J8;refine Wp.bind (Q:=λr:Bool=>r=ai->∀i,i<l.length->a<=gt l i∧gt l i<=c) ?_ λr hr=>au.2 λh=>hr (by simpa using h);refine Wp.bind (Q:=λr:Int=>r<0->∀i,i<l.length->a<=gt l i∧gt l i<=c) ?_ λr hr=>au.2 λh=>hr (by have:=pQ h;omega);refine Wp.bind (Q:=λr:Unit⊕Int=>(∃k:Nat,r= .inr (k:Int))∨(r= .inl ()∧∀i,i<l.length->a<=gt l i∧gt l i<=c)) ?_ λr hr=>?_
 ·refine dV l.length (λk s=>s=(k:Int)∧∀i,i<k->a<=gt l i∧gt l i<=c) ⟨rfl,λi hi=>by omega⟩ ?_ ?_
  ·rintro k s hk ⟨rfl,h⟩;unfold zI Pa;simp only[bb hk,aI,aP hk,aq];by_cases h1:gt l k<a
   ·simp only[dT h1,aI,aq];exact au.2 (.inl ⟨k,rfl⟩)
   ·simp only[dF h1,aE,aD,aq];refine Wp.ite (λ_=>au.2 (.inl ⟨k,rfl⟩)) λh2=>au.2 ⟨by rw[ba (by omega)],λi hi=>?_⟩;have h2:¬gt l k>c:=pQ h2;by_cases eN:i=k
    ·rw[eN];omega
    ·exact h i (by omega)
  ·rintro s ⟨rfl,h⟩;unfold zI;simp only[bJ,aE,aD];exact au.2 (.inr ⟨rfl,h⟩)
 ·rcases hr with⟨k,rfl⟩|⟨rfl,h⟩
  ·exact au.2 λh=>by omega
  ·exact au.2 λ_=>h
def ak1{x:dk}(h:vY x)(f:fc):Wp (Pc x f) λr=>r.2.2.2=0->(-500000<=r.1∧r.1<=500000)∧(-500000<=r.2.1∧r.2.1<=500000)∧-500000<=r.2.2.1∧r.2.2.1<=500000:=by
 unfold Pc;rw[N6 h];simp only[aq,mi,aE,aD];refine Wp.bind (Q:=λc=>c=ai-> -5000<=f.dC∧f.dC<=5000) ?_ λc hc=>?_
 ·refine(Qq (l:=[f.dC,f.fp]) (by simp) (-5000) 5000).bind λc hc=>?_;refine Wp.ite (λ_=>au.2 λh=>by cases h) λhh=>?_;refine(Qq (l:=[f.fK]) (by simp) (-500000) 500000).bind λc2 _=>au.2 λ_=>?_;have:=hc (by simpa using hh) 0 (by simp);exact this
 refine Wp.ite (λ_=>au.2 λh=>by cases h) λhh=>?_;refine(aki _ _).bind λy _=>?_;refine(Qq (l:=[y.1,W (f.fp-y.1)]) (by simp) (-500000) 500000).bind λc2 h2=>?_;refine Wp.ite (λ_=>au.2 λh=>by cases h) λh3=>au.2 λ_=>?_;have h4:=h2 (by simpa using h3);have h5:=hc hh;exact⟨by simp only;omega,h4 0 (by simp),h4 1 (by simp)⟩
def apT(a:Int){l:List Int}(hl:l.length<=1000):Wp (Lr a l) λr=>(∀i,i<l.length->W (-a)<=gt l i∧gt l i<=a)->r=ab:=by
 unfold Lr;refine Wp.bind (Q:=λr=>((∀i,i<l.length->W (-a)<=gt l i∧gt l i<=a)->r= .inl ())) ?_ λr hr=>?_
 ·refine dV l.length (λk s=>s=(k:Int)) rfl ?_ ?_
  ·rintro k s hk rfl;unfold R7;simp only[bb hk,aI,aP hk,aq];by_cases h1:gt l k<W (-a)
   ·simp only[dT h1,aI,aq];exact au.2 λh=>by have:=h k hk;omega
   ·simp only[dF h1,aE,aD,aq];refine Wp.ite (λh2=>au.2 λh=>?_) λ_=>au.2 (by rw[ba (by omega)]);have:=h k hk;have:=jA h2;omega
  ·rintro s rfl;unfold R7;simp only[bJ,aE,aD];exact au.2 λ_=>rfl
 ·cases r with
  |inl u=>exact au.2 λ_=>rfl
  |inr c=>exact au.2 λh=>by have:=hr h;cases this
def JN(f:fc):Wp (EF f) λr=>((-1000000<=f.dC∧f.dC<=1000000)∧(-1000000<=f.fp∧f.fp<=1000000)∧-1000000<=f.fK∧f.fK<=1000000)->r=ab:=by
 unfold EF;refine(apT 1000000 (l:=[f.dC,f.fp,f.fK]) (by simp)).bind λr hr=>au.2 λh=>hr λi hi=>?_;rw[show W (-1000000)= -1000000 from bZ (by omega) (by omega)];match i,hi with
 |0,_=>exact h.1
 |1,_=>exact h.2.1
 |2,_=>exact h.2.2
def AbL(x:dk)(A:List Int):Prop:=A.length=x.cT.length∧∀i,i<x.cT.length->0<=gt A i∧gt A i<=5000
def Qr{x:dk}(h:vY x){A:List Int}(hA:AbL x A)(f:fc):Wp (rP x A f) λ_=>True:=by
 unfold rP;refine Wp.bind (Q:=λ_=>True) ?_ λr _=>?_
 ·unfold V_ V';refine Wp.bind (Q:=λr=>r.2.2.2=0->(-500000<=r.1∧r.1<=500000)∧(-500000<=r.2.1∧r.2.1<=500000)∧-500000<=r.2.2.1∧r.2.2.1<=500000) ?_ λr hr=>?_
  ·refine(JN f).bind λc _=>?_;refine Wp.ite (λ_=>au.2 λh=>by cases h) λ_=>?_;unfold V8 Iz;simp only[aq];exact(ak1 h _).bind λy hy=>au.2 hy
  ·refine Wp.ite (λ_=>au.2 trivial) λhe=>?_;have hd:=hr (by simpa using he);refine(alA h (A:=A) (d:=⟨r.1,r.2.1,r.2.2.1⟩) hA.1 (λi hi=>hA.2 i (by have:=hA.1;omega)) hd.1 hd.2.1 hd.2.2).bind λy _=>?_;exact Wp.ite (λ_=>au.2 trivial) λ_=>au.2 trivial
 ·refine Wp.bind (Q:=λ_=>True) ?_ λ_ _=>au.2 trivial;exact Wp.ite (λ_=>au.2 trivial) λ_=>au.2 trivial
def apU(n:Int):Wp (GO n 100) λ_=>True:=by unfold GO mT kO;rw[aL (by omega),aL (by omega)];simp only[aq];refine Wp.bind (Q:=λ_=>True) ?_ λ_ _=>au.2 trivial;exact Wp.ite (λ_=>au.2 trivial) λ_=>au.2 trivial
def Sd(x n:Int):Wp (yY x n) λ_=>True:=by unfold yY Ls;refine Wp.bind (Q:=λ_=>True) ?_ λ_ _=>au.2 trivial;refine(apU _).bind λy _=>?_;refine Wp.bind (Q:=λ_=>True) ?_ λ_ _=>au.2 trivial;exact Wp.ite (λ_=>au.2 trivial) λ_=>au.2 trivial
def ap5(f:fc)(n:Int):Wp (EG f n) λ_=>True:=by
 unfold EG;refine Wp.bind (Q:=λ_=>True) ?_ λc _=>?_
 ·refine(JN f).bind λc _=>?_;refine Wp.ite (λ_=>au.2 trivial) λ_=>?_;exact Wp.ite (λ_=>au.2 trivial) λ_=>au.2 trivial
 refine Wp.ite (λ_=>au.2 trivial) λ_=>?_;unfold Oa;refine Wp.bind (Q:=λ_=>True) ?_ λ_ _=>au.2 trivial;exact(Sd _ _).bind λ_ _=>(Sd _ _).bind λ_ _=>(Sd _ _).bind λ_ _=>au.2 trivial
def Se{x:Int}(h1: -1000000<=x)(h2:x<=1000000):yY x 100=aa x:=by unfold yY Ls GO mT kO;rw[bZ (x:=x*100) (by omega) (by omega),aL (by omega),aL (by omega)];have e1:(x*100).tdiv 100=x:=Int.mul_tdiv_cancel x (by decide);have e2:(x*100).tmod 100=0:=Int.mul_tmod_left x 100;rw[e1,e2];simp only[aq,show al ((0:Int)<0)=ai from rfl,aE,aD];rw[bZ (x:=x) (by omega) (by omega),bZ (x:=x*100) (by omega) (by omega),show x*100-x*100=0 by omega];simp only[show W 0=0 from rfl,show W (100-0)=100 from rfl,show al ((0:Int)>=100)=ai from rfl,aE,aD,aq]
def Jn(f:fc):Prop:=(-60<=f.dC∧f.dC<=60)∧(-60<=f.fp∧f.fp<=60)∧-900<=f.fK∧f.fK<=900
def ap7{f:fc}(h:Jn f):EG f 100=aa (f.dC,f.fp,f.fK):=by obtain⟨h1,h2,h3⟩:=h;obtain⟨c,hc,ij⟩:=JN f;have ij:=ij ⟨by omega,by omega,by omega⟩;subst ij;unfold EG Oa;rw[hc];simp only[aq,ei,aE,aD,show al ((100:Int)<0)=ai from rfl,show al ((100:Int)>200)=ai from rfl,Se (show-1000000<=f.dC by omega) (by omega),Se (show-1000000<=f.fp by omega) (by omega),Se (show-1000000<=f.fK by omega) (by omega)]
def ak6{x:dk}(h:vY x){A:List Int}(hA:AbL x A){f:fc}(hf:Jn f):Wp (Iy x A f) λn=>n>=100->rP x A f=aa ab:=by
 unfold Iy;refine(JN f).bind λc _=>?_;refine Wp.ite (λ_=>au.2 λh=>by omega) λ_=>?_;refine Wp.bind (Q:=λn=>n>=100->rP x A f=aa ab) ?_ λn hn=>au.2 hn;refine tH (λs=>300-s.2.toNat) (λs=>∃k:Nat,s.2=10*(k:Int)∧k<=21∧s.1<=10*(k:Int)-1∧(k>=11->rP x A f=aa ab)) (λs hs=>?_) ⟨0,rfl,by omega,by simp only;omega,λh=>by omega⟩ (by simp only;omega);obtain⟨s1,s2⟩:=s;obtain⟨k,e1,e2,e3,e4⟩:=hs;simp only at e1 e3 e4;subst e1;unfold afg;refine Wp.bind (Q:=λc=>c=ab->k<=20∧(k=10->rP x A f=aa ab)) ?_ λc hc=>?_
 ·refine Wp.ite (λhh=>?_) λ_=>au.2 λh=>by cases h
  have hh:10*(k:Int)<=200:=jA hh;by_cases oH:k=10
  ·subst oH;rw[show(10*((10:Nat):Int))=100 from rfl,ap7 hf];simp only[aq];obtain⟨m,hm,_⟩:=Qr h hA f;have mF:rP x A ⟨f.dC,f.fp,f.fK⟩=aa m:=hm;rw[mF];exact au.2 λh=>⟨by omega,λ_=>by rw[h]⟩
  ·exact(ap5 f _).bind λy _=>(Qr h hA _).bind λz _=>au.2 λ_=>⟨by omega,λh=>(oH h).elim⟩
 ·refine Wp.ite (λhh=>?_) λ_=>au.2 λh=>e4 (by simp only at h;omega);obtain⟨c1,c2⟩:=hc hh;rw[bZ (x:=10*(k:Int)+10) (by omega) (by omega)];refine au.2 ⟨⟨k+1,by simp only;omega,by omega,by simp only;omega,λhg=>?_⟩,by simp only;omega⟩;by_cases hk:k=10
  ·exact c2 hk
  ·exact e4 (by omega)
variable {q:ax} {tm:Int} {R:List eO}
def Fq(v:jM)(p:cO)(f:fc)(x:jy):Prop:=∃r n,yU v p [] [x.Part]=aa r∧r.2.1=0∧rP v.dk r.2.2.2.2.2.2.2.2 f=aa x.xu∧Iy v.dk r.2.2.2.2.2.2.2.2 f=aa n∧(n>=100->x.xu=ab)
def alh{v:jM}(hv:Jb v)(g:Gd v.aw q)(hn:q.aS.length<=4)(t0:0<=tm)(t1:tm<=20)(hR:BT v.aw tm R){f:fc}(hf:Jn f){x:Part}(hx:x∈qP):Wp (NZ v ⟨tm,q,R,[]⟩ [] [x] f) λh=>Fq v ⟨tm,q,R,[]⟩ f ⟨x,h⟩:=by obtain⟨r,hr,h1,h2⟩:=Za (l:=[x]) hv g hn t0 t1 hR (by simp) (λy hy=>by rw[eb.1 hy];exact hx);obtain⟨m,hm,_⟩:=Qr hv.KE (A:=r.2.2.2.2.2.2.2.2) h2 f;obtain⟨n,Hs,T2⟩:=ak6 hv.KE (A:=r.2.2.2.2.2.2.2.2) h2 hf;unfold NZ;rw[hr];simp only[aq,h1,X',aI,hm];refine au.2 ⟨r,n,hr,h1,hm,Hs,λh=>?_⟩;have:=T2 h;rw[hm]at this;exact jP this
def alr{v:jM}(hv:Jb v)(g:Gd v.aw q)(hn:q.aS.length<=4)(t0:0<=tm)(t1:tm<=20)(hR:BT v.aw tm R){f:fc}(hf:Jn f):Wp (N0 v ⟨tm,q,R,[]⟩ [] f) λl=>l.length<=6∧∀x∈l,Fq v ⟨tm,q,R,[]⟩ f x:=by
 have hP:=hv.Db;have hq:=ajo g.1.2;unfold N0 VT;rw[akX (show q.aS.length<=12 by omega) hq.2 hq.1];simp only[aq];refine Wp.bind (Q:=λr:List Part=>r.length<=12) ?_ λN hN=>?_
 ·refine(Y9 (V0 hv.Im) (Zu v hv g.1.2 hn) (show q.aS.length<=1000 by omega) λx hx=>bA.2 (.inl hx)).bind λr hr=>au.2 hr.1
 have hl:v.dy.fj.length=6:=by rw[hP];rfl
 refine dV v.dy.fj.length (λk s=>∃l,s=((k:Int),l)∧l.length<=k∧∀x∈l,Fq v ⟨tm,q,R,[]⟩ f x) ⟨[],rfl,bx _,λx hx=>by cases hx⟩ ?_ ?_
 ·rintro k s hk ⟨l,rfl,h1,h2⟩;unfold VR;simp only[bb hk,aI,aP hk,aq,M4 (show N.length<=1000000 by omega)];refine Wp.ite (λ_=>?_) λ_=>au.2 ⟨l,by rw[ba (by omega)],by omega,h2⟩;refine(alh hv g hn t0 t1 hR hf (x:=gt v.dy.fj k) (by rw[hP]at hk⊢;exact dx hk)).bind λm hm=>?_;refine au.2 ⟨l++[⟨gt v.dy.fj k,m⟩],by rw[ba (by omega)]<;>rfl,by simp;omega,λx hx=>?_⟩;rcases bA.1 hx with hx|hx
  ·exact h2 x hx
  ·rw[eb.1 hx];exact hm
 ·rintro s ⟨l,rfl,h1,h2⟩;unfold VR;simp only[bJ,aE,aD];exact au.2 ⟨by omega,h2⟩
def alz{v:jM}(hv:Jb v)(g:Gd v.aw q)(hn:q.aS.length<=4)(t0:0<=tm)(t1:tm<=20)(hR:BT v.aw tm R){f:fc}(hf:Jn f):Wp (Is v ⟨tm,q,R,[]⟩ [] f) λr=>r.1=0∧r.2.length<=6∧∀x∈r.2,Fq v ⟨tm,q,R,[]⟩ f x:=by
 have e:Is v ⟨tm,q,R,[]⟩ [] f=uH (yU v ⟨tm,q,R,[]⟩ [] []) λx1=>if(x1.2.1 !=0)=ab then aa (x1.2.1,[])else uH (KB v ⟨tm,q,R,[]⟩ [] f) λx3=>aa (0,x3):=by unfold Is VS;rfl
 rw[e];refine(Za (l:=[]) hv g hn t0 t1 hR (by simp) (λy hy=>by cases hy)).bind λr hr=>?_;rw[hr.1];simp only[mi,aE,aD];refine Wp.bind (Q:=λr:List jy=>r.length<=6∧∀x∈r,Fq v ⟨tm,q,R,[]⟩ f x) ?_ λr hr=>au.2 ⟨rfl,hr⟩;unfold KB Rm;refine Wp.bind (Q:=λr:List jy=>r.length<=6∧∀x∈r,Fq v ⟨tm,q,R,[]⟩ f x) ?_ λr hr=>au.2 hr;refine(alr hv g hn t0 t1 hR hf).bind λl hl=>?_;refine Wp.bind (Q:=λr:List jy=>r=l) ?_ λr hr=>by rw[hr];exact au.2 hl
 refine tH (λs=>s.2.length) (λs=>s.1++s.2=l) (λs hs=>?_) (oV l) (by have:=hl.1;simp only;omega);obtain⟨s1,s2⟩:=s;simp only at hs;unfold Z8;cases s2 with
 |nil=>exact au.2 (by simpa using hs)
 |cons x s2=>
  have hlen:(s1++x::s2).length=l.length:=by rw[hs]
  simp only[cW,jR]at hlen;have h6:=hl.1;try simp only
  rw[cK (by simp;omega)];exact au.2 ⟨by simpa using hs,by simp⟩
