import Derived.Test.YtmngjhagbjgmfaaGreatMd
set_option linter.all false
open Bool renaming and_eq_true->bq,false->ai,false_eq_true->aD,not_true->eg,true->ab
open Decidable renaming decide->ak
open Int renaming eq_ofNat_of_zero_le->nr
open List renaming append_nil->pR,flatten_append->nX,flatten_cons->oW,getElem_of_mem->Fv,length_append->cU,length_cons->jO,length_map->qX,length_singleton->Jo,length_take->oU,map_append->qW,map_cons->gu,mem_append->bz,mem_cons->cr,mem_cons_of_mem->eV,mem_cons_self->nV,mem_map->dC,mem_of_mem_take->uE,mem_singleton->dZ,nil_append->oS,not_mem_nil->jN,pairwise_cons->qV,pairwise_iff_getElem->B1,replicate->cR
open Nat renaming add_sub_cancel->PN,le_refl->bw,le_trans->lK,zero_le->kC
open Option renaming bind->uD,bind_some->al,some->aa
open Option.some renaming inj->jM
open Sum renaming elim_inl->bu,elim_inr->bB
namespace Go.Proofs.YtmngjhagbjgmfaaGreat
open Go Go.RowKit Dp
namespace Rx
section
variable {α:Type} (key:α->Int)
def tf(l:List α):Prop:=l.Pairwise (λa b=>key a<key b)
variable {key}
def ajt:∀{l m:List α},tf key l->tf key m->(∀x,x∈l↔x∈m)->l=m:=by
 intro l;induction l with
 |nil=>
  intro m _ _ he;cases m with
  |nil=>rfl
  |cons b m=>exact(jN ((he b).2 nV)).elim
 |cons a l ih=>
  intro m hl hm he;cases m with
  |nil=>exact(jN ((he a).1 nV)).elim
  |cons b m=>
   have pB:=qV.1 hl;have mB:=qV.1 hm;have hab:a=b:=by
    rcases cr.1 ((he a).1 nV)with h|h
    ·exact h
    ·rcases cr.1 ((he b).2 nV)with h2|h2
     ·exact h2.symm
     ·have h3:=mB.1 _ h;have h4:=pB.1 _ h2;omega
   subst hab;congr 1;refine ih pB.2 mB.2 λx=>⟨λhx=>?_,λhx=>?_⟩
   ·rcases cr.1 ((he x).1 (eV _ hx))with h|h
    ·subst h;have:=pB.1 _ hx;omega
    ·exact h
   ·rcases cr.1 ((he x).2 (eV _ hx))with h|h
    ·subst h;have:=mB.1 _ hx;omega
    ·exact h
def tf.nodup{l:List α}(h:tf key l):l.Nodup:=h.imp λ{a b} hab he=>by subst he;omega
def LN{l m:List α}(hl:l.Nodup):(∀x∈l,x∈m)->l.length<=m.length:=by
 induction l generalizing m with
 |nil=>intro _;simp
 |cons a l ih=>
  intro h;have h':=List.nodup_cons.1 hl;obtain⟨s,t,rfl⟩:=List.append_of_mem (h a nV);have:=ih (m:=s++t) h'.2 λx hx=>by
   have hxa:x≠a:=λhe=>h'.1 (he▸hx);have:=h x (eV _ hx);simp only[bz,cr]at this⊢;rcases this with h|h|h
   ·exact .inl h
   ·exact(hxa h).elim
   ·exact .inr h
  simp only[cU,jO]at this⊢;omega
variable (key)
def lX(x:α):List α->List α
 |[]=>[x]
 |y::r=>if key x<key y then y::lX x r else x::y::r
def tG:List α->List α->List α
 |acc,[]=>acc
 |acc,x::r=>tG (lX key x acc) r
def ml(l:List α):List α:=(tG key [] l).reverse
def VC:Int->List α->List α
 |_,[]=>[]
 |k,y::r=>if key y=k then VC k r else y::VC (key y) r
def dd:List α->List α
 |[]=>[]
 |x::r=>x::VC key (key x) r
variable {key}
def Ta(x:α)(r:List α):(lX key x r).length=r.length+1:=by
 induction r with
 |nil=>rfl
 |cons y r ih=>unfold lX;split<;>simp[ih]
def S_{x z:α}{r:List α}:z∈lX key x r↔z=x∨z∈r:=by
 induction r with
 |nil=>simp[lX]
 |cons y r ih=>
  unfold lX;split
  ·simp only[cr,ih];constructor
   ·rintro(h|h|h)
    ·exact .inr (.inl h)
    ·exact .inl h
    ·exact .inr (.inr h)
   ·rintro(h|h|h)
    ·exact .inr (.inl h)
    ·exact .inl h
    ·exact .inr (.inr h)
  ·simp[cr]
def ar_{x:α}{r:List α}(h:r.Pairwise (λa b=>key b<=key a)):(lX key x r).Pairwise (λa b=>key b<=key a):=by
 induction r with
 |nil=>simp[lX]
 |cons y r ih=>
  have h':=qV.1 h;unfold lX;split
  ·rename_i aU;refine qV.2 ⟨λz hz=>?_,ih h'.2⟩;rcases S_.1 hz with rfl|hz
   ·omega
   ·exact h'.1 _ hz
  ·rename_i aU;refine qV.2 ⟨λz hz=>?_,h⟩;rcases cr.1 hz with rfl|hz
   ·omega
   ·have:=h'.1 _ hz;omega
def anV(l acc:List α):(tG key acc l).length=acc.length+l.length:=by
 induction l generalizing acc with
 |nil=>rfl
 |cons x l ih=>unfold tG;rw[ih,Ta];simp only[jO];omega
def anU{z:α}{l acc:List α}:z∈tG key acc l↔z∈acc∨z∈l:=by
 induction l generalizing acc with
 |nil=>simp[tG]
 |cons x l ih=>
  unfold tG;rw[ih,S_,cr];constructor
  ·rintro((h|h)|h)
   ·exact .inr (.inl h)
   ·exact .inl h
   ·exact .inr (.inr h)
  ·rintro(h|h|h)
   ·exact .inl (.inr h)
   ·exact .inl (.inl h)
   ·exact .inr h
def anS{l acc:List α}(h:acc.Pairwise (λa b=>key b<=key a)):(tG key acc l).Pairwise (λa b=>key b<=key a):=by
 induction l generalizing acc with
 |nil=>exact h
 |cons x l ih=>exact ih (ar_ h)
def anP(l:List α):(ml key l).length=l.length:=by unfold ml;rw[List.length_reverse,anV];simp
def FW{z:α}{l:List α}:z∈ml key l↔z∈l:=by unfold ml;rw[List.mem_reverse,anU];simp
def anL(l:List α):(ml key l).Pairwise (λa b=>key a<=key b):=by unfold ml;rw[List.pairwise_reverse];exact anS List.Pairwise.nil
structure Col(key:α->Int)(xs out:List α):Prop where
 asc:tf key out
 head:∀y∈out,(xs.filter (λz=>decide (key z=key y))).head? =aa y
 all:∀x∈xs,∃y∈out,key y=key x
def ar8{step:Int×List α->Option ((Int×List α)⊕List α)}{G:α->Prop}
  (s0:∀d,step (0,d)=aa (.inr d))
  (s1:∀(a:List α) (y x:α) (b:List α),a.length+b.length<=1000->G y->G x->step (((a.length+1:Nat):Int),a++y::x::b)=if key x<key y then aa (.inl ((a.length:Int),a++x::y::b))else aa (.inr (a++y::x::b))):
  ∀(r:List α) (x:α) (b:List α),r.length+b.length<=1000->(∀z∈r,G z)->G x->∃k,k<=r.length∧ma step k ((r.length:Int),r.reverse++x::b) ((lX key x r).reverse++b):=by
 intro r
 induction r with
 |nil=>intro x b _ _ _;exact⟨0,bw _,.done (s0 _)⟩
 |cons y r ih=>
  intro x b hl hr hx
  have hs:=s1 r.reverse y x b (by simp at hl⊢;omega) (hr y nV) hx
  rw[List.length_reverse]at hs
  have e1:(y::r).reverse++x::b=r.reverse++y::x::b:=by simp
  rw[e1]
  by_cases aU:key x<key y
  ·obtain⟨k,hk,fw⟩:=ih x (y::b) (by simp at hl⊢;omega) (λz hz=>hr z (eV _ hz)) hx;rw[aG aU]at hs;refine⟨k+1,by simp;omega,?_⟩;have e2:(lX key x (y::r)).reverse++b=(lX key x r).reverse++y::b:=by rw[lX,aG aU];simp
   rw[e2];exact .more hs fw
  ·rw[aK aU]at hs;refine⟨0,kC _,?_⟩;have e2:(lX key x (y::r)).reverse++b=r.reverse++y::x::b:=by rw[lX,aK aU];simp
   rw[e2];exact .done hs
def anN{step:Int×List α->Option ((Int×List α)⊕List α)}{G:α->Prop}{n:Nat}(hn:n<=1000)
  (s1:∀(r:List α) (x:α) (b:List α),r.length+1+b.length=n->(∀z∈r,G z)->G x->step ((r.length:Int),r.reverse++x::b)=aa (.inl (((r.length+1:Nat):Int),(lX key x r).reverse++b)))
  (s2:∀d,step ((n:Int),d)=aa (.inr d)):
  ∀(b r:List α),r.length+b.length=n->(∀z∈r,G z)->(∀z∈b,G z)->ma step b.length ((r.length:Int),r.reverse++b) (tG key r b).reverse:=by
 intro b
 induction b with
 |nil=>
  intro r hl _ _
  have:r.length=n:=by simpa using hl
  rw[this,pR]
  exact .done (s2 _)
 |cons x b ih=>
  intro r hl hr hb
  have h:=s1 r x b (by simp at hl;omega) hr (hb x nV)
  have:=ih (lX key x r) (by rw[Ta];simp at hl;omega) (λz hz=>(S_.1 hz).elim (λe=>e▸hb _ nV) (hr z)) (λz hz=>hb z (eV _ hz))
  rw[Ta]at this
  exact .more h this
end
end Rx
namespace Rx
open Classical
def Nn(a b:Part):Bool:=a.Kind==b.Kind&&a.Number==b.Number
def aeG{a b:Part}:Nn a b=ab↔a=b:=by unfold Nn;cases a;cases b;simp
def Vi{a b:Part}(h:a≠b):Nn a b=ai:=by
 cases e:Nn a b with
 |true=>exact(h (aeG.1 e)).elim
 |false=>rfl
structure VP(p:Part):Prop where
 k0:1<=p.Kind
 k1:p.Kind<=9
 n0:0<=p.Number
 n1:p.Number<=63
def pk(p:Part):Int:=p.Kind*64+p.Number
def VP.bd{p:Part}(h:VP p):64<=pk p∧pk p<1024:=by obtain⟨h1,h2,h3,h4⟩:=h;unfold pk;omega
def ap0{p q:Part}(hp:VP p)(hq:VP q)(h:pk p=pk q):p=q:=by obtain⟨h1,h2,h3,h4⟩:=hp;obtain⟨g1,g2,g3,g4⟩:=hq;unfold pk at h;exact R8 (by omega) (by omega)
def Ex(a b:Int):Int:=if a<b then-1 else if a>b then 1 else 0
def ax3(a b:Int):vN a b=aa (Ex a b):=by
 unfold vN Iq Ex;simp only[al,me,aD,aC];by_cases h:a<b
 ·simp[h]
 ·by_cases h2:a>b
  ·simp[h,h2]
  ·simp[h,h2]
def ae7(x y:Int):(x<y∧Ex x y= -1)∨(x=y∧Ex x y=0)∨(x>y∧Ex x y=1):=by
 unfold Ex;by_cases h1:x<y
 ·exact .inl ⟨h1,aG h1⟩
 ·rw[aK h1];by_cases h2:x>y
  ·exact .inr (.inr ⟨h2,aG h2⟩)
  ·exact .inr (.inl ⟨by omega,aK h2⟩)
def Lw{a b:Part}(ha:VP a)(hb:VP b):∃c,Bu a b=aa c∧(c<0↔pk a<pk b)∧(c=0↔pk a=pk b)∧(-1<=c∧c<=1):=by
 unfold Bu;simp only[ax3,Lz,al];refine⟨_,rfl,?_⟩;obtain⟨h1,h2,h3,h4⟩:=ha;obtain⟨g1,g2,g3,g4⟩:=hb;unfold pk;rcases ae7 a.Kind b.Kind with⟨c1,c2⟩|⟨c1,c2⟩|⟨c1,c2⟩<;>rw[c2]
 ·rw[aG (by omega)];omega
 ·rw[aK (by omega)];rcases ae7 a.Number b.Number with⟨d1,d2⟩|⟨d1,d2⟩|⟨d1,d2⟩<;>rw[d2]<;>omega
 ·rw[aG (by omega)];omega
def at0{α:Type}(a:List α)(y:α)(b:List α):idx (a++y::b) ((a.length:Nat):Int)=aa y:=by rw[Mo];simp
def vP{α:Type}(a:List α)(y x:α)(b:List α):idx (a++y::x::b) ((a.length+1:Nat):Int)=aa x:=by rw[Mo,List.getElem?_append_right (by omega),show a.length+1-a.length=1 by omega];rfl
def aox{α:Type}(a:List α)(y z:α)(b:List α):(a++y::b).set a.length z=a++z::b:=by
 induction a with
 |nil=>rfl
 |cons c a ih=>simp[ih]
def aow{α:Type}(a:List α)(y x z:α)(b:List α):(a++y::x::b).set (a.length+1) z=a++y::z::b:=by
 induction a with
 |nil=>rfl
 |cons c a ih=>simp[ih]
def an3(d:List Part):F4 0 (0,d)=aa (.inr d):=by unfold F4;simp only[dF (c:=(0:Int)>0) (by omega),aD,aC,al]
def an2(a:List Part)(y x:Part)(b:List Part)(hl:a.length+b.length<=1000)(hy:VP y)(hx:VP x):F4 0 (((a.length+1:Nat):Int),a++y::x::b)=if pk x<pk y then aa (.inl ((a.length:Int),a++x::y::b))else aa (.inr (a++y::x::b)):=by
 unfold F4;have hW:W (((a.length+1:Nat):Int)-1)=(a.length:Int):=nQ (k:=a.length+1) (by omega) (by omega);obtain⟨c,hc,c1,_⟩:=Lw hx hy;simp only[dT (c:=((a.length+1:Nat):Int)>0) (by omega),aH,hW,vP,at0,hc,al];by_cases aU:pk x<pk y
 ·simp only[dT (c1.2 aU),aH,aG aU];rw[jy (show a.length+1<(a++y::x::b).length by simp),aow];simp only[al,at0];rw[jy (show a.length<(a++y::y::b).length by simp),aox];rfl
 ·simp only[dF (λh=>aU (c1.1 h)),aD,aC,aK aU]
def asa{l:List Part}(hn:l.length<20)(hl:∀x∈l,VP x):JZ l 0 (len l)=aa (ml pk l):=by
 unfold JZ;have e3:W (0+1)=((1:Nat):Int):=bY (by omega) (by omega);rw[e3];cases l with
 |nil=>
  have:aI (CD 0 (len ([]:List Part))) (((1:Nat):Int),[])=aa []:=dO (λ_=>(((1:Nat):Int),[])) 0 (λk hk=>by omega) (by unfold CD;simp[len])
  rw[this];rfl
 |cons x b=>
  have h:=anN (step:=CD 0 (len (x::b))) (G:=VP) (key:=pk) (n:=(x::b).length) (by omega) (λr z b' hl hr hz=>by
   unfold CD;simp only[dT (c:=(r.length:Int)<len (x::b)) (by unfold len;omega),aH];obtain⟨k,hk,fw⟩:=ar8 (key:=pk) (G:=VP) an3 an2 r z b' (by omega) hr hz;rw[ou fw (by omega)];simp only[al];rw[a_ (by omega)]) (λd=>by
   unfold CD;simp only[dF (c:=(((x::b).length:Nat):Int)<len (x::b)) (by unfold len;omega),aD,aC]) b [x] (by simp;omega) (λz hz=>hl z (by simp at hz;simp[hz])) (λz hz=>hl z (eV _ hz))
  have h':=ou h (by simp at hn;omega);simp only[jO,List.length_nil,List.reverse_cons,List.reverse_nil,oS,List.singleton_append,Nat.zero_add]at h';have e:len (x::b)=((b.length+1:Nat):Int):=by simp[len]
  rw[h'];rfl
def M0{l:List Part}(hl:l.length<=1000000)(p:Part):yN l p=aa (dB (p∈l)):=by
 have h:Wp (aI (wx l p) 0) λr=>(p∈l∧∃k:Nat,r= .inr (k:Int))∨(p∉l∧r= .inl ()):=by
  refine dS l.length (λk s=>s=(k:Int)∧∀i,i<k->gt l i≠p) ⟨rfl,λi hi=>by omega⟩ (λk s hk hv=>?_) (λs hv=>?_) (by omega)
  ·obtain⟨rfl,hv⟩:=hv;unfold wx;simp only[ba hk,aH,aO hk,al];by_cases hq:p=gt l k
   ·rw[show(p.Kind==(gt l k).Kind&&p.Number==(gt l k).Number)=ab from aeG.2 hq];simp only[aH];exact ar.2 (.inl ⟨by rw[hq];exact du hk,k,rfl⟩)
   ·rw[show(p.Kind==(gt l k).Kind&&p.Number==(gt l k).Number)=ai from Vi hq];simp only[aD,aC];rw[a_ (by omega)];refine ar.2 ⟨rfl,λi hi=>?_⟩;by_cases eL:i=k
    ·rw[eL];exactλhe=>hq he.symm
    ·exact hv i (by omega)
  ·obtain⟨rfl,hv⟩:=hv;unfold wx;simp only[bI,aD,aC];refine ar.2 (.inr ⟨λhp=>?_,rfl⟩);obtain⟨i,hi,he⟩:=om hp;exact hv i hi he
 obtain⟨r,hr,h⟩:=h;unfold yN F_ J3;rw[hr];rcases h with⟨hp,k,rfl⟩|⟨hp,rfl⟩
 ·rw[iK hp];simp only[al,bB,dT (c:=(k:Int)>=0) (by omega)]
 ·rw[gQ hp];rfl
def aCa{n:Nat}(h:n<=12):∃r,OV (rm IntKind.u64 (n:Int))=aa r:=by
 match n,h with
 |0,_=>exact⟨0,by kernel_rfl⟩
 |1,_=>exact⟨1,by kernel_rfl⟩
 |2,_=>exact⟨2,by kernel_rfl⟩
 |3,_=>exact⟨2,by kernel_rfl⟩
 |4,_=>exact⟨3,by kernel_rfl⟩
 |5,_=>exact⟨3,by kernel_rfl⟩
 |6,_=>exact⟨3,by kernel_rfl⟩
 |7,_=>exact⟨3,by kernel_rfl⟩
 |8,_=>exact⟨4,by kernel_rfl⟩
 |9,_=>exact⟨4,by kernel_rfl⟩
 |10,_=>exact⟨4,by kernel_rfl⟩
 |11,_=>exact⟨4,by kernel_rfl⟩
 |12,_=>exact⟨4,by kernel_rfl⟩
def ZU{l:List Part}(hn:l.length<=12)(hl:∀x∈l,VP x):F5 l=aa (ml pk l):=by
 obtain⟨r,hr⟩:=aCa hn;have TL:OV (rm IntKind.u64 (len l))=aa r:=hr;have e:aI QW (0,len l,r,ab,ab,l)=aa (ml pk l):=dO (λ_=>(0,len l,r,ab,ab,l)) 0 (λk hk=>by omega) (by unfold QW;simp only[bY (x:=len l-0) (by unfold len;omega) (by unfold len;omega),dT (c:=len l-0<=12) (by unfold len;omega),aH,asa (show l.length<20 by omega) hl,al,bB])
 unfold F5 QX;simp only[TL,e,al]
def ar'{α:Type}{key:α->Int}(x:α)(r:List α):(lX key x r).Perm (x::r):=by
 induction r with
 |nil=>exact .refl _
 |cons y r ih=>
  unfold lX;split
  ·exact(ih.cons y).trans (.swap _ _ _)
  ·exact .refl _
def anT{α:Type}{key:α->Int}:∀(l acc:List α),(tG key acc l).Perm (l++acc):=by
 intro l;induction l with
 |nil=>intro acc;exact .refl _
 |cons x l ih=>intro acc;unfold tG;refine(ih _).trans ?_;refine((ar' x acc).append_left l).trans ?_;exact List.perm_middle
def anO{α:Type}{key:α->Int}(l:List α):(ml key l).Perm l:=by unfold ml;refine(List.reverse_perm _).trans ((anT l []).trans ?_);rw[pR]
def QM{l:List Part}(hd:l.Nodup)(hl:∀x∈l,VP x):tf pk (ml pk l):=by
 have h:=anL (key:=pk) l;have hn:(ml pk l).Nodup:=(anO l).nodup_iff.2 hd;have hm:∀x∈ml pk l,VP x:=λx hx=>hl x (FW.1 hx);revert h hn hm;generalize ml pk l=m;induction m with
 |nil=>intro _ _ _;exact .nil
 |cons x m ih=>
  intro h hn hm;have h':=qV.1 h;have DI:=List.nodup_cons.1 hn;refine qV.2 ⟨λy hy=>?_,ih h'.2 DI.2 λz hz=>hm z (eV _ hz)⟩;have h1:=h'.1 y hy;rcases Int.lt_or_eq_of_le h1 with h2|h2
  ·exact h2
  ·have:=ap0 (hm x nV) (hm y (eV _ hy)) h2;subst this;exact(DI.1 hy).elim
def anM{l m:List Part}(h:m.Perm l)(hd:l.Nodup)(hl:∀x∈l,VP x):ml pk m=ml pk l:=ajt (QM (h.nodup_iff.2 hd) λx hx=>hl x (h.mem_iff.1 hx)) (QM hd hl) λx=>by rw[FW,FW];exact h.mem_iff
def anQ{l:List Part}(h:tf pk l)(hl:∀x∈l,VP x):ml pk l=l:=ajt (QM h.nodup hl) h λx=>FW
def ax0{l:List Part}(hn:l.length<=1000)(h:tf pk l):Kw l=aa l:=by
 unfold Kw;by_cases h2:l.length<2
 ·rw[dT (c:=len l<2) (by unfold len;omega),aG rfl]
 ·rw[dF (c:=len l<2) (by unfold len;omega)];have e:aI Kv (1,l)=aa (.inl l):=dO (λk=>(((k+1:Nat):Int),l)) (l.length-1) (λk hk=>by
   unfold Kv;have bQ:((gt l (k+1)).Kind==(gt l k).Kind&&(gt l (k+1)).Number==(gt l k).Number)=ai:=Vi λhe=>by have:=B1.1 h k (k+1) (by omega) (by omega) (by omega);rw[<-fH (by omega),<-fH (by omega),he]at this;omega
   simp only[ba (show k+1<l.length by omega),aH,aO (show k+1<l.length by omega),nQ (k:=k+1) (by omega) (by omega),PN,aO (show k<l.length by omega),al,bQ,aD,aC];rw[a_ (by omega)]) (by
   unfold Kv;rw[show l.length-1+1=l.length by omega];simp only[bI,aD,aC])
  simp only[aD,aC,e,al,bu]
def av2{n:Nat}(h:n<=100000):J9 (n:Int)=aa []:=by
 have h0:W ((n:Int)-W (0-0))=(n:Int):=by rw[show W (0-0)=0 from bY (by omega) (by omega),Int.sub_zero];exact bY (by omega) (by omega)
 unfold J9;rw[dF (c:=(n:Int)<0) (by omega),h0];simp only[aD,aC];by_cases hp:(n:Int)>0
 ·rw[dT hp];simp only[aH];rw[show dI ([]:List Unit) 0 0=aa []from rfl];simp only[al];rw[show Ad (Part.mk 0 0) (n:Int)=aa (cR (n:Int).toNat (Part.mk 0 0))from by unfold Ad;rw[aG ⟨by omega,by omega⟩]];simp only[al];rw[show dI (cR (n:Int).toNat (Part.mk 0 0)) 0 0=aa []from by unfold dI;rw[aG ⟨by omega,by omega,by omega⟩];simp];rfl
 ·rw[dF hp];rfl
def ae4{L:List (List Part)}(hl:L.length<=10)(hn:L.flatten.length<=1000):F' L=aa L.flatten:=by
 have hp:∀k,(L.take k).flatten.length<=1000:=λk=>by
  have e:L.flatten=(L.take k).flatten++(L.drop k).flatten:=by rw[<-nX,List.take_append_drop]
  rw[e,cU]at hn;omega
 have hs:∀k,k<L.length->(L.take (k+1)).flatten=(L.take k).flatten++gt L k:=λk hk=>by rw[lh hk,nX];simp
 have h0:(L.take L.length).flatten=L.flatten:=by rw[List.take_length]
 have hc:∀k,k<L.length->(L.take k).flatten.length+(gt L k).length<=1000:=λk hk=>by have:=hp (k+1);rw[hs k hk,cU]at this;exact this
 have e1:aI (Ku L) (0,0)=aa ((L.flatten.length:Nat):Int):=dO (λk=>((((L.take k).flatten.length:Nat):Int),(k:Int))) L.length (λk hk=>by
  have:=hc k hk;unfold Ku;simp only[ba hk,aH,aO hk,al];rw[bY (by unfold len;omega) (by unfold len;omega),dF (show ¬(((L.take k).flatten.length:Nat):Int)+len (gt L k)<0 by unfold len;omega),a_ (by omega),hs k hk,cU];simp[len]) (by
  unfold Ku;simp only[bI,aD,aC,h0])
 have e3:aI (Kt L) (0,[])=aa L.flatten:=dO (λk=>((k:Int),(L.take k).flatten)) L.length (λk hk=>by
  unfold Kt;simp only[ba hk,aH,aO hk,al];rw[cJ (by have:=hc k hk;omega),a_ (by omega),hs k hk];rfl) (by
  unfold Kt;simp only[bI,aD,aC,h0])
 unfold F';simp only[e1,av2 (show L.flatten.length<=100000 by omega),e3,al]
end Rx
namespace Rx
open Classical
def kp(x:Int×Int×Bool):Part:=⟨x.1,x.2.1⟩
def BR(m:List (Int×Int×Bool)):Prop:=(m.map kp).Nodup∧∀x∈m,x.2.2=ab
def aqV{m:List (Int×Int×Bool)}(h:BR m)(p:Part):yb (λbJ=>bJ.1==p.Kind&&bJ.2.1==p.Number) (λcp=>cp.2.2) ai m=dB (p∈m.map kp):=by
 unfold yb;cases hf:m.find? (λbJ=>bJ.1==p.Kind&&bJ.2.1==p.Number)with
 |none=>rw[gQ];intro hm;obtain⟨x,hx,rfl⟩:=dC.1 hm;have:=List.find?_eq_none.1 hf x hx;simp[kp]at this
 |some x=>
  have h1:=List.mem_of_find?_eq_some hf;have h2:=List.find?_some hf;rw[iK]
  ·exact h.2 x h1
  ·refine dC.2 ⟨x,h1,?_⟩;simp only[bq,xr]at h2;unfold kp;rw[h2.1,h2.2]
def aqQ{m:List (Int×Int×Bool)}(h:BR m){p:Part}(hp:p∉m.map kp):Ac (λbo=>bo.1==p.Kind&&bo.2.1==p.Number) (p.Kind,p.Number,ab) m=m++[(p.Kind,p.Number,ab)]:=by unfold Ac;rw[aK];intro hm;obtain⟨x,hx,h2⟩:=List.any_eq_true.1 hm;simp only[bq,xr]at h2;exact hp (dC.2 ⟨x,hx,by unfold kp;rw[h2.1,h2.2]⟩)
def BR.snoc{m:List (Int×Int×Bool)}(h:BR m){p:Part}(hp:p∉m.map kp):BR (m++[(p.Kind,p.Number,ab)]):=by
 refine⟨?_,λx hx=>?_⟩
 ·rw[qW,gu,List.map_nil];refine List.nodup_append.2 ⟨h.1,by simp,λa ha b hb=>?_⟩;rw[dZ.1 hb];intro e;exact hp (by rw[e]at ha;exact ha)
 ·rcases bz.1 hx with hx|hx
  ·exact h.2 x hx
  ·rw[dZ.1 hx]
def awf:∀(ys:List (Int×Int×Bool)) (s:List Part),s.length+ys.length<=1000->sP (λdD da=>uD (bF dD [Part.mk da.1 da.2.1]) λdN=>aa dN) s ys=aa (s++ys.map kp):=by
 intro ys;induction ys with
 |nil=>intro s _;unfold sP;rw[List.map_nil,pR]
 |cons y ys ih=>intro s h;unfold sP;simp only[jO]at h;rw[cJ (by simp;omega)];simp only[al,nA];rw[ih _ (by simp;omega),gu,List.append_assoc];rfl
structure Pb(U:List Part)(d:dw):Prop where
 n:U.length<=12
 vp:∀x∈U,VP x
 to:∀x∈d.h_,x.To∈U
 ln:d.h_.length<=60
def axf{d:dw}{U:List Part}(hU:Pb U d)(p:Part){l:List Part}(hl:l.length<=100000)(hm:∀x∈l,x∈U):Wp (aI (NP d p) (0,l)) λr=>(∀x∈r,x∈U)∧r.length<=l.length+60:=by
 have hn:=hU.ln;refine dS d.h_.length (λk s=>∃r,s=((k:Int),r)∧(∀x∈r,x∈U)∧r.length<=l.length+k) ⟨l,rfl,hm,bw _⟩ ?_ ?_
 ·rintro k s hk ⟨r,rfl,h1,h2⟩;unfold NP;simp only[ba hk,aH,aO hk,al];refine Wp.bind (Q:=λr=>(∀x∈r,x∈U)∧r.length<=l.length+(k+1)) ?_ λr hr=>ar.2 ⟨r,by rw[a_ (by omega)],hr⟩;refine Wp.ite (λ_=>?_) λ_=>ar.2 ⟨h1,by omega⟩;rw[cJ (by simp;omega)];refine ar.2 ⟨λx hx=>?_,by simp;omega⟩;rcases bz.1 hx with hx|hx
  ·exact h1 x hx
  ·rw[dZ.1 hx];exact hU.to _ (du hk)
 ·rintro s ⟨r,rfl,h1,h2⟩;unfold NP;simp only[bI,aD,aC];exact ar.2 ⟨h1,by omega⟩
def axg{d:dw}{U:List Part}(hU:Pb U d){l:List Part}(hl:l.length<=1000)(hm:∀x∈l,x∈U):Wp (aI (VB d) (l,[])) λm=>BR m∧∀x∈m.map kp,x∈U:=by
 have hn:=hU.n;refine tD (λs=>(12-s.2.length)*61+s.1.length) (λs=>(BR s.2∧∀x∈s.2.map kp,x∈U)∧(∀x∈s.1,x∈U)∧(12-s.2.length)*61+s.1.length<=2000) (λs hs=>?_) ⟨⟨⟨by simp,λx hx=>by cases hx⟩,λx hx=>by cases hx⟩,hm,by simp;omega⟩ (by simp;omega);obtain⟨nx,m⟩:=s;obtain⟨⟨h1,h2⟩,h3,h4⟩:=hs;simp only at h1 h2 h3 h4;have DK:m.length<=U.length:=by have:=LN h1.1 h2;rwa[qX]at this
 unfold VB;by_cases h0:0<nx.length
 ·obtain⟨p,nx,rfl⟩:=List.exists_cons_of_ne_nil (List.length_pos_iff.1 h0);simp only[jO]at h4;rw[dT (show len (p::nx)>0 by unfold len;simp only[jO];omega),aG rfl,show idx (p::nx) 0=aa p from rfl,show dI (p::nx) 1 (len (p::nx))=aa nx from Rl (n:=1) (by simp)];simp only[al];rw[aqV h1];by_cases hp:p∈m.map kp
  ·rw[iK hp,aG rfl];exact ar.2 ⟨⟨⟨h1,h2⟩,λx hx=>h3 x (eV _ hx),by simp only;omega⟩,by simp only[jO];omega⟩
  ·rw[gQ hp,aK (by decide),aqQ h1 hp];have TC:=h1.snoc hp;have Bd:∀x∈(m++[(p.Kind,p.Number,ab)]).map kp,x∈U:=λx hx=>by
    rw[qW]at hx;rcases bz.1 hx with hx|hx
    ·exact h2 x hx
    ·rw[dZ.1 hx];exact h3 p nV
   have atL:(m++[(p.Kind,p.Number,ab)]).length<=U.length:=by have:=LN TC.1 Bd;rwa[qX]at this
   simp only[cU,Jo]at atL;refine Wp.bind (Q:=λr:List Part×List (Int×Int×Bool)=>r.2=m++[(p.Kind,p.Number,ab)]∧(∀x∈r.1,x∈U)∧r.1.length<=nx.length+60) ?_ λr hr=>?_
   ·exact(axf hU p (show nx.length<=100000 by omega) λx hx=>h3 x (eV _ hx)).bind λr hr=>ar.2 ⟨rfl,hr⟩
   ·obtain⟨r1,r2⟩:=r;obtain⟨e,e1,e2⟩:=hr;simp only at e e1 e2;subst e;refine ar.2 ⟨⟨⟨TC,Bd⟩,e1,?_⟩,?_⟩
    ·simp only[cU,Jo];omega
    ·simp only[cU,Jo,jO];omega
 ·rw[dF (show ¬len nx>0 by unfold len;omega),aK (by decide)];exact ar.2 ⟨h1,h2⟩
def aCm{α ρ:Type}{xs:List α}{f:List α->Option ρ}{Q:ρ->Prop}{r:ρ}(h:∀zs,zs.Perm xs->f zs=aa r)(hq:Q r):Wp (BM xs f) Q:=by rw[aCn h];exact ar.2 hq
def Y5{d:dw}{U:List Part}(hc:Et d=aa 0)(hU:Pb U d){l:List Part}(hl:l.length<=1000)(hm:∀x∈l,x∈U):Wp (Ih d l) λr=>r.length<=12∧∀x∈r,x∈U:=by
 unfold Ih;simp only[hc,al,me,aD,aC];unfold zF;rw[cJ (by simp;omega)];simp only[al,oS];refine(axg hU hl hm).bind λm hm=>?_;obtain⟨h1,h2⟩:=hm;have DK:m.length<=U.length:=by have:=LN h1.1 h2;rwa[qX]at this
 have hn:=hU.n;have hvp:∀x∈m.map kp,VP x:=λx hx=>hU.vp x (h2 x hx);refine aCm (r:=ml pk (m.map kp)) (λzs hz=>?_) ⟨by rw[anP,qX];omega,λx hx=>h2 x (FW.1 hx)⟩;have gP:=hz.length_eq;have hzp:=hz.map kp;rw[awf zs [] (by simp;omega)];simp only[al,oS];rw[ZU (by rw[qX];omega) λx hx=>hvp x (hzp.mem_iff.1 hx),anM hzp h1.1 hvp];rfl
def akT{l:List Part}(hl:l.length<=12)(hv:∀x∈l,VP x)(ha:tf pk l):Ig [] l=aa l:=by unfold Ig;rw[ae4 (by simp) (by simp;omega)];simp only[al,oW,List.flatten_nil,oS,pR];rw[ZU hl hv,anQ ha hv];simp only[al];rw[ax0 (by omega) ha];rfl
end Rx
namespace Rx
open Classical
def kw(P:List Part):Prop:=tf pk P∧∀x∈P,VP x
def kw.lt{P:List Part}(h:kw P){i j:Nat}(iJ:i<j)(hj:j<P.length):pk (gt P i)<pk (gt P j):=by rw[fH (by omega),fH hj];exact B1.1 h.1 i j (by omega) hj iJ
def arx(a b:Part):Np a b=aa (ak (a.Kind<b.Kind∨(a.Kind=b.Kind∧a.Number<b.Number))):=by
 unfold Np;by_cases h1:a.Kind<b.Kind
 ·rw[dT h1,aG rfl,dT (.inl h1)];rfl
 ·rw[dF h1,aK (by decide)];by_cases h2:a.Kind=b.Kind
  ·rw[gh h2,aG rfl];by_cases h3:a.Number<b.Number
   ·rw[dT h3,dT (.inr ⟨h2,h3⟩)];rfl
   ·rw[dF h3,dF (by omega)];rfl
  ·rw[dG h2,aK (by decide),dF (by omega)];rfl
def akR{g:List Part}(hg:g.length<=1000)(x:Part):Wp (No g x) λr=>(r≠[]∧r.length<=g.length+1)∧(∀y∈r,y=x∨y∈g)∧(kw g->VP x->kw r):=by
 unfold No;refine Wp.bind (Q:=λr=>∃i:Nat,r=(i:Int)∧i<=g.length∧(∀j,j<i->((gt g j).Kind<x.Kind∨((gt g j).Kind=x.Kind∧(gt g j).Number<x.Number)))∧(i<g.length->¬((gt g i).Kind<x.Kind∨((gt g i).Kind=x.Kind∧(gt g i).Number<x.Number)))) ?_ λr hr=>?_
 ·refine tD (λs=>g.length-s.toNat) (λs=>∃i:Nat,s=(i:Int)∧i<=g.length∧∀j,j<i->((gt g j).Kind<x.Kind∨((gt g j).Kind=x.Kind∧(gt g j).Number<x.Number))) (λs hs=>?_) ⟨0,rfl,kC _,λj hj=>by omega⟩ (by omega);obtain⟨i,rfl,h1,h2⟩:=hs;unfold aeL;by_cases hi:i<g.length
  ·simp only[ba hi,aH,aO hi,arx,al];refine Wp.ite (λhh=>ar.2 ?_) λhh=>ar.2 ⟨i,rfl,h1,h2,λ_=>pN hh⟩;rw[a_ (by omega)];refine⟨⟨i+1,rfl,hi,λj hj=>?_⟩,by omega⟩;by_cases fG:j=i
   ·rw[fG];exact jw hh
   ·exact h2 j (by omega)
  ·rw[dF (show ¬(i:Int)<len g by unfold len;omega),aK (by decide)];simp only[al,aD,aC];exact ar.2 ⟨i,rfl,h1,h2,λh=>(hi h).elim⟩
 obtain⟨i,rfl,h1,h2,h3⟩:=hr;have fin:(¬i<g.length∨(i<g.length∧gt g i≠x))->Wp (uD (dI g 0 (i:Int)) λx8=>uD (dI g (i:Int) (len g)) λx9=>uD (bF [x] (uv g (i:Int))) λbe=>uD (bF (Cw g (i:Int)) be) λbo=>aa bo) λr=>(r≠[]∧r.length<=g.length+1)∧(∀y∈r,y=x∨y∈g)∧(kw g->VP x->kw r):=λhc=>by
  rw[CO h1,Rl h1];simp only[al];rw[show uv g (i:Int)=g.drop i from by unfold uv;simp,show Cw g (i:Int)=g.take i from by unfold Cw;simp];rw[cJ (by simp;omega)];simp only[al];rw[cJ (by simp;omega)];refine ar.2 ⟨⟨by simp,by simp;omega⟩,λy hy=>?_,λhp hv=>⟨?_,λy hy=>?_⟩⟩
  ·rcases bz.1 hy with hy|hy
   ·exact .inr (uE hy)
   ·rcases bz.1 hy with hy|hy
    ·exact .inl (dZ.1 hy)
    ·exact .inr (List.mem_of_mem_drop hy)
  ·have lo:∀j,j<i->pk (gt g j)<pk x:=λj hj=>by
    have h:=h2 j hj;have v:=hp.2 _ (du (show j<g.length by omega));obtain⟨v1,v2,v3,v4⟩:=v;obtain⟨w1,w2,w3,w4⟩:=hv;unfold pk;omega
   have hi:∀j,i<=j->j<g.length->pk x<pk (gt g j):=λj hj dh=>by
    rcases hc with hc|⟨hc,bQ⟩
    ·omega
    have h:=h3 hc;have v:=hp.2 _ (du hc);have e:pk x<pk (gt g i):=by have hn:¬((gt g i).Kind=x.Kind∧(gt g i).Number=x.Number):=λhe=>bQ (R8 he.1 he.2);obtain⟨v1,v2,v3,v4⟩:=v;obtain⟨w1,w2,w3,w4⟩:=hv;unfold pk;omega
    by_cases iJ:i=j
    ·rw[<-iJ];exact e
    ·have:=hp.lt (show i<j by omega) dh;omega
   refine List.pairwise_append.2 ⟨hp.1.sublist (List.take_sublist _ _),qV.2 ⟨λy hy=>?_,hp.1.sublist (List.drop_sublist _ _)⟩,λy hy z hz=>?_⟩
   ·have hy:y∈g.drop i:=hy;obtain⟨j,hj,rfl⟩:=Fv hy;rw[List.getElem_drop,<-fH];simp only[List.length_drop]at hj;exact hi _ (by omega) (by omega)
   ·obtain⟨j,hj,rfl⟩:=Fv hy;simp only[oU]at hj;rw[List.getElem_take,<-fH];have AU:=lo j (by omega);rcases bz.1 hz with hz|hz
    ·rw[dZ.1 hz];exact AU
    ·obtain⟨q,hq,rfl⟩:=Fv hz;rw[List.getElem_drop,<-fH];simp only[List.length_drop]at hq;have:=hi (i+q) (by omega) (by omega);omega
  ·rcases bz.1 hy with hy|hy
   ·exact hp.2 _ (uE hy)
   ·rcases bz.1 hy with hy|hy
    ·rw[dZ.1 hy];exact hv
    ·exact hp.2 _ (List.mem_of_mem_drop hy)
 by_cases hi:i<g.length
 ·simp only[ba hi,aH,aO hi,al];refine Wp.ite (λhh=>ar.2 ⟨⟨λe=>by rw[e]at hi;simp at hi,by omega⟩,λy hy=> .inr hy,λhp _=>hp⟩) λhh=>fin (.inr ⟨hi,λe=>?_⟩);rw[e]at hh;simp at hh
 ·rw[dF (show ¬(i:Int)<len g by unfold len;omega),aK (by decide)];simp only[al,aD,aC];exact fin (.inl hi)
def lk(x:jK):Int:=pk x.fA*1024+pk x.To
def BT(P:List Part)(L:List jK):Prop:=(∀x∈L,(x.fA∈P∧x.To∈P)∧x.fA≠x.To)∧(kw P->tf lk L)
def Y2{l:List Int}{a:Int}(hs:Sr l a){P:List Part}(hP:P.length<=1000):Wp (I_ ⟨l,a⟩ P) λr=>Sr r.1 r.2.1∧r.2.2.1=P∧r.2.2.2.length<=20∧BT P r.2.2.2:=by
 unfold I_;refine Wp.bind (Q:=λr:List jK×List Int×Int=>Sr r.2.1 r.2.2∧r.1.length<=20∧BT P r.1) ?_ λr hr=>ar.2 ⟨hr.1,rfl,hr.2⟩;refine dS P.length (λk s=>∃L l a,s=((k:Int),L,l,a)∧Sr l a∧L.length<=20∧BT P L∧(kw P->∀x∈L,∀i,k<=i->i<P.length->pk x.fA<pk (gt P i))) ⟨[],l,a,rfl,hs,by simp,⟨λx hx=>(by cases hx),λ_=> .nil⟩,λ_ x hx=>(by cases hx)⟩ ?_ ?_
 ·rintro k s hk ⟨L,l,a,rfl,hs,h1,h2,h3⟩;unfold Xz;simp only[ba hk,aH,aO hk,al];refine Wp.bind (Q:=λr:List jK×List Int×Int=>Sr r.2.1 r.2.2∧r.1.length<=20∧BT P r.1∧(kw P->∀x∈r.1,∀i,k+1<=i->i<P.length->pk x.fA<pk (gt P i))) ?_ λr hr=>ar.2 ⟨r.1,r.2.1,r.2.2,by rw[a_ (by omega)],hr⟩;refine dS P.length (λj s=>∃L l a,s=((j:Int),L,l,a)∧Sr l a∧L.length<=20∧BT P L∧(kw P->∀x∈L,pk x.fA<pk (gt P k)∨(x.fA=gt P k∧∀i,j<=i->i<P.length->pk x.To<pk (gt P i)))) ⟨L,l,a,rfl,hs,h1,h2,λhp x hx=> .inl (h3 hp x hx k (bw _) hk)⟩ ?_ ?_
  ·rintro j s hj ⟨L,l,a,rfl,hs,h1,h2,h3⟩;unfold Xy;simp only[ba hj,aH,aO hj,al];refine Wp.bind (Q:=λr:Bool×List Int×Int=>Sr r.2.1 r.2.2∧(r.1=ab->gt P k≠gt P j∧L.length<20)) ?_ λr hr=>?_
   ·refine Wp.ite (λhh=>?_) λ_=>ar.2 ⟨hs,λh=>by cases h⟩;refine Wp.ite (λh20=>?_) λ_=>ar.2 ⟨hs,λh=>by cases h⟩;refine(gT hs (n:=7) (by omega) (by omega)).bind λy hy=>ar.2 ⟨hy.2,λ_=>⟨λe=>?_,?_⟩⟩
    ·rw[e]at hh;simp at hh
    ·have:=jw h20;unfold len at this;omega
   ·refine Wp.bind (Q:=λL':List jK=>L'.length<=20∧BT P L'∧(kw P->∀x∈L',pk x.fA<pk (gt P k)∨(x.fA=gt P k∧∀i,j+1<=i->i<P.length->pk x.To<pk (gt P i)))) ?_ λL' hL'=>ar.2 ⟨L',r.2.1,r.2.2,by rw[a_ (by omega)],hr.1,hL'⟩;have db:kw P->∀x∈L,pk x.fA<pk (gt P k)∨(x.fA=gt P k∧∀i,j+1<=i->i<P.length->pk x.To<pk (gt P i)):=λhp x hx=>(h3 hp x hx).imp id λh=>⟨h.1,λi hi hl=>h.2 i (by omega) hl⟩;refine Wp.ite (λhh=>?_) λ_=>ar.2 ⟨h1,h2,db⟩;obtain⟨q1,q2⟩:=hr.2 hh;rw[cJ (by simp;omega)];refine ar.2 ⟨by simp;omega,⟨λx hx=>?_,λhp=>?_⟩,λhp x hx=>?_⟩
    ·rcases bz.1 hx with hx|hx
     ·exact h2.1 x hx
     ·rw[dZ.1 hx];exact⟨⟨du hk,du hj⟩,q1⟩
    ·refine List.pairwise_append.2 ⟨h2.2 hp,List.pairwise_singleton _ _,λx hx y hy=>?_⟩;rw[dZ.1 hy];have b1:=(hp.2 _ ((h2.1 x hx).1.2)).bd;have b2:=(hp.2 _ (du hj)).bd;show lk x<pk (gt P k)*1024+pk (gt P j);unfold lk;rcases h3 hp x hx with h|⟨h,h'⟩
     ·omega
     ·rw[h];have:=h' j (bw _) hj;omega
    ·rcases bz.1 hx with hx|hx
     ·exact db hp x hx
     ·rw[dZ.1 hx];exact .inr ⟨rfl,λi hi hl=>hp.lt (by omega) hl⟩
  ·rintro s ⟨L,l,a,rfl,hs,h1,h2,h3⟩;unfold Xy;simp only[bI,aD,aC];refine ar.2 ⟨hs,h1,h2,λhp x hx i hi hl=>?_⟩;have:=hp.lt (show k<i by omega) hl;rcases h3 hp x hx with h|⟨h,_⟩
   ·omega
   ·rw[h];exact this
 ·rintro s ⟨L,l,a,rfl,hs,h1,h2,h3⟩;unfold Xz;simp only[bI,aD,aC];exact ar.2 ⟨hs,h1,h2⟩
def Ab:List ByteArray:=[dY [111,110,101],dY [116,119,111],dY [103,45,51],dY [120]]
def Jg(P:List Part)(g:List Part):Prop:=(g≠[]∧∀x∈g,x∈P)∧(kw P->kw g)
def PL(P:List Part)(G:List jh):Prop:=∃n:Nat,n<=3∧G.length<=n∧∀i,i<G.length->Ab[n-i]? =aa (gt G i).Name∧Jg P (gt G i).fh
def Y4{l:List Int}{a:Int}(hs:Sr l a){P:List Part}(hP:P.length<=900):Wp (I' ⟨l,a⟩ P) λr=>Sr r.1 r.2.1∧r.2.2.1=P∧PL P r.2.2.2:=by
 unfold I';refine(gT hs (n:=4) (by omega) (by omega)).bind λy hy=>?_;obtain⟨⟨n0,n1⟩,hs⟩:=hy;obtain⟨n,hn⟩:=nr n0;have hn:y.1=(n:Int):=hn;rw[hn]at n1⊢;refine Wp.bind (Q:=λr:List jh×List Int×Int=>Sr r.2.1 r.2.2∧PL P r.1) ?_ λr hr=>ar.2 ⟨hr.1,rfl,hr.2⟩;refine tD (λs=>s.1.toNat) (λs=>∃(k:Nat) (G:List jh) (l:List Int) (a:Int),s=(((n-k:Nat):Int),G,l,a)∧k<=n∧Sr l a∧G.length=k∧∀i,i<G.length->Ab[n-i]? =aa (gt G i).Name∧Jg P (gt G i).fh) (λs hs=>?_) ⟨0,[],_,_,rfl,kC _,hs,rfl,λi hi=>by simp at hi⟩ (by simp only;omega);obtain⟨k,G,l,a,rfl,hk,hs,h1,h2⟩:=hs;have stop:Sr l a∧PL P G:=⟨hs,n,by omega,by omega,h2⟩;unfold ajV;by_cases Hy:k<n
 ·simp only[dT (show((n-k:Nat):Int)>0 by omega),aH,al];by_cases h0:0<P.length
  ·simp only[dT (show len P>0 by unfold len;omega),aH];obtain⟨nm,hnm⟩:∃nm,Ab[n-k]? =aa nm:=⟨_,List.getElem?_eq_getElem (by simp[Ab];omega)⟩;rw[show idx [dY [111,110,101],dY [116,119,111],dY [103,45,51],dY [120]] ((n-k:Nat):Int)=aa nm from by rw[Mo];exact hnm];simp only[al];refine(gT hs (n:=len P) (by unfold len;omega) (by unfold len;omega)).bind λz hz=>?_;obtain⟨⟨z0,z1⟩,hs⟩:=hz;unfold len at z1;rw[iI z0 z1];simp only[al];have DL:=du (l:=P) (k:=z.1.toNat) (by omega);refine Wp.bind (Q:=λr:List Int×Int×ByteArray×List Part=>Sr r.1 r.2.1∧r.2.2.1=nm∧Jg P r.2.2.2) ?_ λr hr=>?_
   ·refine dS P.length (λj s=>∃l a g,s=((j:Int),l,a,nm,g)∧Sr l a∧g.length<=j+1∧Jg P g) ⟨_,_,_,rfl,hs,by simp,⟨by simp,λx hx=>by rw[dZ.1 hx];exact DL⟩,λhp=>⟨List.pairwise_singleton _ _,λx hx=>by rw[dZ.1 hx];exact hp.2 _ DL⟩⟩ ?_ ?_
    ·rintro j s hj ⟨l,a,g,rfl,hs,e1,e2⟩;unfold XA;simp only[ba hj,aH,aO hj,al];refine(gT hs (n:=4) (by omega) (by omega)).bind λw hw=>?_;refine Wp.bind (Q:=λr:ByteArray×List Part=>r.1=nm∧r.2.length<=j+2∧Jg P r.2) ?_ λr hr=>ar.2 ⟨_,_,r.2,by rw[a_ (by omega),<-hr.1],hw.2,hr.2⟩;refine Wp.ite (λ_=>?_) λ_=>ar.2 ⟨rfl,by simp only;omega,e2⟩;refine(akR (show g.length<=1000 by omega) (gt P j)).bind λr hr=>ar.2 ⟨rfl,by have:=hr.1.2;simp only;omega,⟨hr.1.1,λx hx=>?_⟩,λhp=>hr.2.2 (e2.2 hp) (hp.2 _ (du hj))⟩;rcases hr.2.1 x hx with rfl|hx
     ·exact du hj
     ·exact e2.1.2 x hx
    ·rintro s ⟨l,a,g,rfl,hs,e1,e2⟩;unfold XA;simp only[bI,aD,aC];exact ar.2 ⟨hs,rfl,e2⟩
   ·rw[cJ (by simp;omega)];simp only[al];refine ar.2 ⟨⟨k+1,G++[⟨r.2.2.1,r.2.2.2⟩],r.1,r.2.1,?_,by omega,hr.1,by simp;omega,λi hi=>?_⟩,?_⟩
    ·rw[nQ (show n-k<1000000000000000000 by omega) (by omega),Nat.sub_sub]
    ·rw[sM (by simpa using hi)];by_cases lA:i<G.length
     ·rw[aG lA];exact h2 i lA
     ·rw[aK lA,hr.2.1];have:i=k:=by simp at hi;omega
      rw[this];exact⟨hnm,hr.2.2⟩
    ·simp only;rw[nQ (show n-k<1000000000000000000 by omega) (by omega)];omega
  ·simp only[dF (show ¬len P>0 by unfold len;omega),aD,aC];exact ar.2 stop
 ·simp only[dF (show ¬((n-k:Nat):Int)>0 by omega),aD,aC,al];exact ar.2 stop
structure Jj(d:dw):Prop where
 n:d.fh.length<=40
 C8:kw d.fh
 ln:d.h_.length<=20
 lks:BT d.fh d.h_
 grs:PL d.fh d.ii
def aju{l:List Part}(hn:l.length<=1000)(h:kw l):If l=aa ab:=by
 have e:aI (NL l) 1=aa (.inl ()):=dO (λk=>((k+1:Nat):Int)) (l.length-1) (λk hk=>by
  unfold NL;obtain⟨c,hc,c1,c2,c3⟩:=Lw (h.2 _ (du (show k<l.length by omega))) (h.2 _ (du (show k+1<l.length by omega)));have:=c1.2 (h.lt (show k<k+1 by omega) (by omega));simp only[ba (show k+1<l.length by omega),aH,aO (show k+1<l.length by omega),nQ (k:=k+1) (by omega) (by omega),PN,aO (show k<l.length by omega),al,hc,dF (show ¬c>=0 by omega),aD,aC];rw[a_ (by omega)]) (by
  unfold NL;rw[dF (show ¬((l.length-1+1:Nat):Int)<len l by unfold len;omega)];rfl)
 unfold If;rw[e];rfl
def alG{p:Part}(h:VP p):NN p=aa ai:=by obtain⟨h1,h2,h3,h4⟩:=h;unfold NN VA;simp only[dT (show p.Kind>=1 from h1),dT h2,dT (show p.Number>=0 from h3),dT h4,aH,al,eg]
def an1{l:List Part}(hn:l.length<=1000)(h:kw l):NO l=aa ab:=by
 have e:aI (J6 l) 0=aa (.inl ()):=dO (λk=>(k:Int)) l.length (λk hk=>by
  unfold J6;simp only[ba hk,aH,aO hk,al,alG (h.2 _ (du hk)),aD,aC];rw[a_ (by omega)]) (by
  unfold J6;simp only[bI,aD,aC])
 unfold NO Rc Q5;rw[e];simp only[al,bu,aju hn h];rfl
def aru{x y:jK}(h1:VP x.fA)(h2:VP x.To)(h3:VP y.fA)(h4:VP y.To)(h:lk x<lk y):∃c,NG x y=aa c∧c<0:=by
 obtain⟨c,hc,c1,c2,c3⟩:=Lw h1 h3;obtain⟨e,he,e1,e2,e3⟩:=Lw h2 h4;have b1:=h1.bd;have b2:=h2.bd;have b3:=h3.bd;have b4:=h4.bd;unfold lk at h;unfold NG;simp only[hc,he,Lz,al];refine⟨_,rfl,?_⟩;by_cases h0:c=0
 ·rw[aK (by omega)];have:=c2.1 h0;exact e1.2 (by omega)
 ·rw[aG h0];have:pk x.fA≠pk y.fA:=λhe=>h0 (c2.2 he);exact c1.2 (by omega)
def art{d:dw}(h:Jj d):NH d=aa ab:=by
 obtain⟨hn,hp,rC,hl,_⟩:=h;have e1:aI (NF d) 0=aa (.inl ()):=dO (λk=>(k:Int)) d.h_.length (λk hk=>by
  unfold NF;obtain⟨⟨m1,m2⟩,m3⟩:=hl.1 _ (du hk);simp only[ba hk,aH,aO hk,al,M0 (show d.fh.length<=1000000 by omega),iK m1,iK m2,eg,aD,aC,show((gt d.h_ k).fA.Kind==(gt d.h_ k).To.Kind&&(gt d.h_ k).fA.Number==(gt d.h_ k).To.Number)=ai from Vi m3];rw[a_ (by omega)]) (by
  unfold NF;simp only[bI,aD,aC])
 have e2:aI (NM d.h_) 1=aa (.inl ()):=dO (λk=>((k+1:Nat):Int)) (d.h_.length-1) (λk hk=>by
  unfold NM;have mD:k<d.h_.length:=by omega
  have eG:k+1<d.h_.length:=by omega
  have m1:=(hl.1 _ (du mD)).1;have m2:=(hl.1 _ (du eG)).1;have aU:lk (gt d.h_ k)<lk (gt d.h_ (k+1)):=by rw[fH mD,fH eG];exact B1.1 (hl.2 hp) k (k+1) mD eG (by omega)
  obtain⟨c,hc,c1⟩:=aru (hp.2 _ m1.1) (hp.2 _ m1.2) (hp.2 _ m2.1) (hp.2 _ m2.2) aU;simp only[ba eG,aH,aO eG,nQ (k:=k+1) (by omega) (by omega),PN,aO mD,al,hc,dF (show ¬c>=0 by omega),aD,aC];rw[a_ (by omega)]) (by
  unfold NM;rw[dF (show ¬((d.h_.length-1+1:Nat):Int)<len d.h_ by unfold len;omega)];rfl)
 unfold NH Vz;rw[e1,e2];rfl
def aqu:Es (dY [116,119,111])=aa ab:=by kernel_rfl
def aqt:Es (dY [103,45,51])=aa ab:=by kernel_rfl
def aqs:Es (dY [120])=aa ab:=by kernel_rfl
def aqG:(dY [111,110,101]==dY [116,119,111])=ai:=by kernel_rfl
def aqF:(dY [111,110,101]==dY [103,45,51])=ai:=by kernel_rfl
def aqE:(dY [111,110,101]==dY [120])=ai:=by kernel_rfl
def aqD:(dY [116,119,111]==dY [111,110,101])=ai:=by kernel_rfl
def aqC:(dY [116,119,111]==dY [103,45,51])=ai:=by kernel_rfl
def aqB:(dY [116,119,111]==dY [120])=ai:=by kernel_rfl
def aqA:(dY [103,45,51]==dY [111,110,101])=ai:=by kernel_rfl
def aqz:(dY [103,45,51]==dY [116,119,111])=ai:=by kernel_rfl
def aqy:(dY [103,45,51]==dY [120])=ai:=by kernel_rfl
def aqx:(dY [120]==dY [111,110,101])=ai:=by kernel_rfl
def aqw:(dY [120]==dY [116,119,111])=ai:=by kernel_rfl
def aqv:(dY [120]==dY [103,45,51])=ai:=by kernel_rfl
def alA{n:Nat}(h0:1<=n)(h:n<=3){x:ByteArray}(hx:Ab[n]? =aa x):Es x=aa ab:=by
 match n,h0,h with
 |1,_,_=>cases hx;exact aqu
 |2,_,_=>cases hx;exact aqt
 |3,_,_=>cases hx;exact aqs
def aqH{i j:Nat}(hi:i<4)(hj:j<4)(bQ:i≠j){x y:ByteArray}(hx:Ab[i]? =aa x)(hy:Ab[j]? =aa y):(x==y)=ai:=by
 match i,j,hi,hj with
 |0,0,_,_|1,1,_,_|2,2,_,_|3,3,_,_=>exact(bQ rfl).elim
 |0,1,_,_=>cases hx;cases hy;exact aqG
 |0,2,_,_=>cases hx;cases hy;exact aqF
 |0,3,_,_=>cases hx;cases hy;exact aqE
 |1,0,_,_=>cases hx;cases hy;exact aqD
 |1,2,_,_=>cases hx;cases hy;exact aqC
 |1,3,_,_=>cases hx;cases hy;exact aqB
 |2,0,_,_=>cases hx;cases hy;exact aqA
 |2,1,_,_=>cases hx;cases hy;exact aqz
 |2,3,_,_=>cases hx;cases hy;exact aqy
 |3,0,_,_=>cases hx;cases hy;exact aqx
 |3,1,_,_=>cases hx;cases hy;exact aqw
 |3,2,_,_=>cases hx;cases hy;exact aqv
def av4{d:dw}(h:Jj d):NJ d=aa ab:=by
 obtain⟨hn,hp,_,_,n,n3,hg,hG⟩:=h;have e1:aI (NI d) 0=aa (.inl ()):=dO (λk=>(k:Int)) d.ii.length (λk hk=>by
  obtain⟨g1,⟨g2,g3⟩,g4⟩:=hG k hk;have g4:=g4 hp;have hlen:(gt d.ii k).fh.length<=40:=lK (LN g4.1.nodup g3) hn;have hE:Kr (d.ii.take k) (gt d.ii k)=aa ai:=by
   have oC:(d.ii.take k).length=k:=by rw[oU];omega
   have e:aI (J7 (d.ii.take k) (gt d.ii k)) 0=aa (.inl ()):=dO (λj=>(j:Int)) (d.ii.take k).length (λj hj=>by
    rw[oC]at hj;unfold J7 Vy;have nK:j<(d.ii.take k).length:=by omega
    have ej:gt (d.ii.take k) j=gt d.ii j:=by rw[fH nK,fH (by omega),List.getElem_take]
    simp only[ba nK,aH,aO nK,al,ej,aqH (show n-j<4 by omega) (show n-k<4 by omega) (by omega) (hG j (by omega)).1 g1,aD,aC];rw[a_ (by omega)]) (by
    unfold J7;simp only[bI,aD,aC])
   unfold Kr Q7;rw[e];rfl
  have hF:Kq (gt d.ii k).fh d=aa ai:=by
   have e:aI (J5 (gt d.ii k).fh d) 0=aa (.inl ()):=dO (λj=>(j:Int)) (gt d.ii k).fh.length (λj hj=>by
    unfold J5 Vx;simp only[ba hj,aH,aO hj,al,M0 (show d.fh.length<=1000000 by omega),iK (g3 _ (du hj)),eg,aD,aC];rw[a_ (by omega)]) (by
    unfold J5;simp only[bI,aD,aC])
   unfold Kq Q4;rw[e];rfl
  have h0:(len (gt d.ii k).fh==0)=ai:=by have:=List.length_pos_iff.2 g2;exact dG (by unfold len;omega)
  unfold NI;rw[show dI d.ii 0 (k:Int)=aa (d.ii.take k)from CO (by omega)];simp only[ba hk,aH,aO hk,al,alA (show 1<=n-k by omega) (by omega) g1,eg,aD,aC,hE,h0,hF,aju (show(gt d.ii k).fh.length<=1000 by omega) g4];rw[a_ (by omega)]) (by
  unfold NI;simp only[bI,aD,aC]) (by omega)
 unfold NJ;rw[e1];rfl
def VW{d:dw}(h:Jj d):Et d=aa 0:=by have h1:=h.n;have h2:=h.ln;obtain⟨n,h3,h4,_⟩:=h.grs;unfold Et;simp only[dF (show ¬len d.fh>40 by unfold len;omega),dF (show ¬len d.h_>60 by unfold len;omega),dF (show ¬len d.ii>6 by unfold len;omega),aD,aC,al,an1 (show d.fh.length<=1000 by omega) h.C8,art h,av4 h,eg]
end Rx
namespace Rx
open Classical
section
variable {l:List Int} {a:Int}
def alt(hs:Sr l a):Wp (Py ⟨l,a⟩) λr=>Sr r.2.2.1 r.2.2.2:=by unfold Py;refine(dU hs (by simp) (by simp)).bind λx h1=>(dU h1.2 (by simp) (by simp)).bind λy h2=>?_;unfold kL;rw[aK (by omega)];exact ar.2 h2.2
def akV(hs:Sr l a):Wp (Pg ⟨l,a⟩) λr=>Sr r.2.2.2.2.2.1 r.2.2.2.2.2.2.1:=by
 unfold Pg;refine(pW hs (by omega) (by omega) (by omega) (by omega)).bind λx1 h=>(gT h.2 (by omega) (by omega)).bind λx2 h=>(dU h.2 (by simp) (by simp)).bind λx3 h=>(dU h.2 (by simp) (by simp)).bind λx4 h=>(dU h.2 (by simp) (by simp)).bind λx5 h=>(gT h.2 (by omega) (by omega)).bind λx6 h6=>?_;obtain⟨⟨n0,n1⟩,hs6⟩:=h6;obtain⟨n,hn⟩:=nr n0;have hn:x6.1=(n:Int):=hn;rw[hn]at n1⊢;refine Wp.bind (Q:=λr=>Sr r.1 r.2.1) ?_ λr hr=>ar.2 hr;refine dS n (λk s=>∃l a F,s=(((n-k:Nat):Int),l,a,x1.1,x2.1,x3.1,x4.1,x5.1,F)∧Sr l a∧F.length<=k) ⟨_,_,[],rfl,hs6,kC _⟩ ?_ ?_
 ·rintro k s hk ⟨l,a,F,rfl,e1,e2⟩;unfold XE;simp only[dT (show((n-k:Nat):Int)>0 by omega),aH];refine(alt e1).bind λr hr=>?_;rw[cJ (by simp;omega)];refine ar.2 ⟨_,_,F++[⟨r.1,r.2.1⟩],?_,hr,by rw[cU];exact Nat.succ_le_succ e2⟩;rw[nQ (show n-k<1000000000000000000 by omega) (by omega),Nat.sub_sub]
 ·rintro s ⟨l,a,F,rfl,e1,e2⟩;unfold XE;simp only[dF (show ¬((n-n:Nat):Int)>0 by omega),aD,aC];exact ar.2 e1
def akY(hs:Sr l a):Wp (Pj ⟨l,a⟩ 2) λr=>r.2.2.2.2.length<=8∧Sr r.2.2.1 r.2.2.2.1:=by
 unfold Pj;rw[show W (2+1)=3 from rfl];refine(dU hs (by simp) (by simp)).bind λx1 h=>(dU h.2 (by simp) (by simp)).bind λx2 h=>(gT h.2 (by omega) (by omega)).bind λx3 h3=>?_;obtain⟨⟨n0,n1⟩,hs3⟩:=h3;obtain⟨n,hn⟩:=nr n0;have hn:x3.1=(n:Int):=hn;rw[hn]at n1⊢;refine Wp.bind (Q:=λr=>r.2.2.2.2.length<=n∧Sr r.1 r.2.1) ?_ λr hr=>ar.2 ⟨by have:=hr.1;simp only;omega,hr.2⟩;refine dS n (λk s=>∃l a M,s=(((n-k:Nat):Int),l,a,x1.1,x2.1,M)∧Sr l a∧M.length<=k) ⟨_,_,[],rfl,hs3,kC _⟩ ?_ ?_
 ·rintro k s hk ⟨l,a,M,rfl,e1,e2⟩;unfold XH;simp only[dT (show((n-k:Nat):Int)>0 by omega),aH];refine(akV e1).bind λr hr=>?_;rw[cJ (by simp;omega)];refine ar.2 ⟨_,_,M++[⟨r.1,r.2.1,r.2.2.1,r.2.2.2.1,r.2.2.2.2.1,r.2.2.2.2.2.2.2⟩],?_,hr,by rw[cU];exact Nat.succ_le_succ e2⟩;rw[nQ (show n-k<1000000000000000000 by omega) (by omega),Nat.sub_sub]
 ·rintro s ⟨l,a,M,rfl,e1,e2⟩;unfold XH;simp only[dF (show ¬((n-n:Nat):Int)>0 by omega),aD,aC];exact ar.2 ⟨e2,e1⟩
def alr(hs:Sr l a):Wp (Px ⟨l,a⟩) λr=>Sr r.2.2.2.1 r.2.2.2.2.1∧r.2.2.2.2.2.2.2.length<=5:=by
 unfold Px;refine(pW hs (lo:=1) (hi:=4) (by omega) (by omega) (by omega) (by omega)).bind λy hy=>?_;obtain⟨nb,l,a⟩:=y;obtain⟨AR,hs⟩:=hy;simp only at AR hs⊢;refine(dU hs (by simp) (by simp)).bind λy hy=>?_;obtain⟨ph,l,a,z⟩:=y;obtain⟨hph,hs⟩:=hy;simp only[cr,jN,kB]at hph hs⊢;refine(dU hs (by simp) (by simp)).bind λy hy=>?_;obtain⟨fr,l,a,z⟩:=y;obtain⟨eA,hs⟩:=hy;simp only[cr,jN,kB]at eA hs⊢;refine Wp.bind (Q:=λx=>∃l a br,x=(l,a,nb,ph,fr,br)∧Sr l a∧br.length<=3) ?_ λx hx=>?_
 ·refine dS (nb-1).toNat (λk s=>∃l a br,s=((k:Int)+1,l,a,nb,ph,fr,br)∧Sr l a∧br.length<=k) ⟨_,_,_,rfl,hs,bw _⟩ ?_ ?_
  ·rintro k s hk ⟨l,a,br,rfl,hs,h2⟩;unfold XT;simp only[dT (c:=(k:Int)+1<nb) (by omega),aH];refine(gT hs (n:=6) (by omega) (by omega)).bind λy hy=>?_;obtain⟨y,l,a⟩:=y;obtain⟨hy,hs⟩:=hy;simp only at hy hs⊢;refine Wp.bind (Q:=λx=>∃l a br,x=(l,a,nb,ph,fr,br)∧Sr l a∧br.length<=k+1) ?_ λx hx=>?_
   ·refine Wp.ite (λ_=>?_) (λ_=>ar.2 ⟨_,_,_,rfl,hs,by omega⟩);refine(gT hs (n:=(k:Int)+1) (by omega) (by omega)).bind λz hz=>?_;obtain⟨z,l,a⟩:=z;obtain⟨hz,hs⟩:=hz;simp only at hz hs⊢;rw[cJ (by simp;omega)];exact ar.2 ⟨_,_,_,rfl,hs,by simp;omega⟩
   ·obtain⟨l,a,W0,rfl,hs,h4⟩:=hx;refine ar.2 ⟨l,a,W0,?_,hs,h4⟩;try simp only
    rw[bY (by omega) (by omega)];rfl
  ·rintro s ⟨l,a,br,rfl,hs,h2⟩;unfold XT;simp only[dF (c:=(((nb-1).toNat:Nat):Int)+1<nb) (by omega),aD,aC];exact ar.2 ⟨_,_,_,rfl,hs,by omega⟩
 obtain⟨l,a,br1,rfl,hs,dX⟩:=hx;try simp only
 refine Wp.bind (Q:=λx=>∃c l a,x=(c,l,a)∧Sr l a∧(c=ab->2<nb)) ?_ λx pt=>?_
 ·refine Wp.ite (λh=>?_) (λ_=>ar.2 ⟨_,_,_,rfl,hs,λh=>by cases h⟩);refine(gT hs (n:=2) (by omega) (by omega)).bind λy hy=>?_;obtain⟨y,l,a⟩:=y;exact ar.2 ⟨_,_,_,rfl,hy.2,λ_=>jw h⟩
 obtain⟨more,l,a,rfl,hs,pt⟩:=pt;try simp only
 refine Wp.bind (Q:=λx=>∃br,x=(nb,ph,fr,br)∧br.length<=4) ?_ λx Ay=>?_
 ·refine Wp.ite (λh=>?_) (λ_=>ar.2 ⟨_,rfl,by omega⟩);have h2:=pt h;rw[cJ (by simp;omega),bY (x:=nb-1) (by omega) (by omega)];exact ar.2 ⟨_,rfl,by simp;omega⟩
 obtain⟨br2,rfl,Hb⟩:=Ay;try simp only
 refine(gT hs (n:=5) (by omega) (by omega)).bind λy hy=>?_;obtain⟨m,l,a⟩:=y;obtain⟨hy,hs⟩:=hy;simp only at hy hs⊢;refine Wp.bind (Q:=λx=>∃l a br S,x=(l,a,nb,ph,fr,br,S)∧Sr l a∧br.length<=8∧S.length<=4) ?_ λx hx=>?_
 ·refine dS m.toNat (λk s=>∃l a br S,s=(m-k,l,a,nb,ph,fr,br,S)∧Sr l a∧br.length<=4+k∧S.length=k) ⟨l,a,br2,[],by simp,hs,by simpa using Hb,rfl⟩ ?_ ?_
  ·rintro k s hk ⟨l,a,br,S,rfl,hs,h2,h3⟩;unfold XS;simp only[dT (c:=m-(k:Int)>0) (by omega),aH];refine(gT hs (n:=nb) (by omega) (by omega)).bind λy tV=>?_;obtain⟨c,l,a⟩:=y;obtain⟨tV,hs⟩:=tV;simp only at tV hs⊢;rw[cJ (xs:=br) (by simp;omega)];simp only[al];refine(dU hs (by simp) (by simp)).bind λy hr=>?_;obtain⟨r,l,a,z⟩:=y;obtain⟨hr,hs⟩:=hr;simp only[cr,jN,kB]at hr hs⊢;refine(dU hs (by simp) (by simp)).bind λy hl=>?_;obtain⟨le,l,a,z⟩:=y;obtain⟨hl,hs⟩:=hl;simp only[cr,jN,kB]at hl hs⊢;refine(dU hs (by simp) (by simp)).bind λy ht=>?_;obtain⟨st,l,a,z⟩:=y;obtain⟨ht,hs⟩:=ht;simp only[cr,jN,kB]at ht hs⊢;rw[cJ (xs:=S) (by simp;omega)];simp only[al];refine ar.2 ⟨l,a,br++[⟨2,c,len S⟩],S++[⟨r,le,st⟩],?_,hs,by simp;omega,by simp;omega⟩;rw[bY (by omega) (by omega),show m-(k:Int)-1=m-((k+1:Nat):Int)from by omega]
  ·rintro s ⟨l,a,br,S,rfl,hs,h2,h3⟩;unfold XS;simp only[dF (c:=m-((m.toNat:Nat):Int)>0) (by omega),aD,aC];exact ar.2 ⟨_,_,_,_,rfl,hs,by omega,by omega⟩
 obtain⟨l,a,br3,S,rfl,hs,g2,g3⟩:=hx;try simp only
 refine(gT hs (n:=6) (by omega) (by omega)).bind λy tV=>?_;obtain⟨m2,l,a⟩:=y;obtain⟨tV,hs⟩:=tV;simp only at tV hs⊢;refine Wp.bind (Q:=λx=>∃l a br C,x=(l,a,nb,ph,fr,br,C)∧Sr l a∧br.length<=18∧C.length<=5) ?_ λx hx=>?_
 ·refine dS m2.toNat (λk s=>∃l a br C,s=(m2-k,l,a,nb,ph,fr,br,C)∧Sr l a∧br.length<=8+2*k∧C.length=k) ⟨l,a,br3,[],by simp,hs,by simpa using g2,rfl⟩ ?_ ?_
  ·rintro k s hk ⟨l,a,br,C,rfl,hs,h2,h3⟩;unfold XR;simp only[dT (c:=m2-(k:Int)>0) (by omega),aH];refine(gT hs (n:=nb) (by omega) (by omega)).bind λy Tp=>?_;obtain⟨c,l,a⟩:=y;obtain⟨Tp,hs⟩:=Tp;simp only at Tp hs⊢;rw[cJ (xs:=br) (by simp;omega)];simp only[al];refine Wp.bind (Q:=λx=>∃c l a,x=(c,l,a)∧Sr l a∧(c=ab->1<nb)) ?_ λx Ha=>?_
   ·refine Wp.ite (λh=>?_) (λ_=>ar.2 ⟨_,_,_,rfl,hs,λh=>by cases h⟩);refine(gT hs (n:=4) (by omega) (by omega)).bind λy hy=>?_;obtain⟨y,l,a⟩:=y;exact ar.2 ⟨_,_,_,rfl,hy.2,λ_=>jw h⟩
   obtain⟨two,l,a,rfl,hs,Ha⟩:=Ha;try simp only
   refine Wp.bind (Q:=λx=>∃br,x=(nb,ph,fr,br)∧br.length<=8+2*(k+1)) ?_ λx hx7=>?_
   ·refine Wp.ite (λh=>?_) (λ_=>ar.2 ⟨_,rfl,by simp;omega⟩);have AR:=Ha h;have e1:kL (W (c+1)) nb=aa ((c+1)% nb):=by rw[bY (by omega) (by omega),RR (by omega) (by omega)]
    rw[e1];simp only[al];rw[cJ (by simp;omega)];exact ar.2 ⟨_,rfl,by simp;omega⟩
   obtain⟨W0,rfl,uj⟩:=hx7;try simp only
   refine(dU hs (by simp) (by simp)).bind λy hl=>?_;obtain⟨lo,l,a,z⟩:=y;obtain⟨hl,hs⟩:=hl;simp only[cr,jN,kB]at hl hs⊢;rw[zK (by omega) (by omega) (by omega)];simp only[al];refine(dU hs (by simp) (by simp)).bind λy hle=>?_;obtain⟨le,l,a,z⟩:=y;obtain⟨hle,hs⟩:=hle;simp only[cr,jN,kB]at hle hs⊢;refine(gT hs (n:=3) (by omega) (by omega)).bind λy TN=>?_;obtain⟨pr,l,a⟩:=y;obtain⟨TN,hs⟩:=TN;simp only at TN hs⊢;refine(pW hs (lo:= -1) (hi:=2) (by omega) (by omega) (by omega) (by omega)).bind λy TA=>?_;obtain⟨th,l,a⟩:=y;obtain⟨TA,hs⟩:=TA;simp only at TA hs⊢;refine Wp.bind (Q:=λx=>∃c l a,x=(c,l,a)∧Sr l a∧(c=ab->0<k)) ?_ λx hx8=>?_
   ·refine Wp.ite (λh=>?_) (λ_=>ar.2 ⟨_,_,_,rfl,hs,λh=>by cases h⟩);refine(gT hs (n:=4) (by omega) (by omega)).bind λy hy=>?_;obtain⟨y,l,a⟩:=y;exact ar.2 ⟨_,_,_,rfl,hy.2,λ_=>by have:=jw h;unfold len at this;omega⟩
   obtain⟨nd,l,a,rfl,hs,hx8⟩:=hx8;try simp only
   refine Wp.bind (Q:=λx=>∃l a w,x=(l,a,lo,le,pr,th,w)∧Sr l a) ?_ λx hx9=>?_
   ·refine Wp.ite (λh=>?_) (λ_=>ar.2 ⟨_,_,_,rfl,hs⟩);exact(alb hs (n:=len C) (by unfold len;omega) (by unfold len;omega)).bind λy hy4=>ar.2 ⟨_,_,_,rfl,hy4.2⟩
   obtain⟨l,a,aqL,rfl,hs⟩:=hx9;try simp only
   rw[cJ (xs:=C) (by simp;omega)];simp only[al];refine ar.2 ⟨l,a,W0,C++[⟨lo,le,pr,th,aqL⟩],?_,hs,by omega,by simp;omega⟩;rw[bY (by omega) (by omega),show m2-(k:Int)-1=m2-((k+1:Nat):Int)from by omega]
  ·rintro s ⟨l,a,br,C,rfl,hs,h2,h3⟩;unfold XR;simp only[dF (c:=m2-((m2.toNat:Nat):Int)>0) (by omega),aD,aC];exact ar.2 ⟨_,_,_,_,rfl,hs,by omega,by omega⟩
 obtain⟨l,a,br4,C,rfl,hs,k2,k3⟩:=hx;exact ar.2 ⟨hs,k3⟩
def Qo(hs:Sr l a):Wp (E7 ⟨l,a⟩) λr=>Sr r.1 r.2.1:=by
 unfold E7;rw[show mu (0:Int) 12=aa (cR 12 0)from x_ (n:=12) (by omega)];simp only[al];refine Wp.bind (Q:=λr:List Int×Int×List Int=>Sr r.1 r.2.1) ?_ λr hr=>ar.2 hr;refine dS 12 (λk s=>∃l a w,s=((k:Int),l,a,w)∧Sr l a∧w.length=12) ⟨l,a,_,rfl,hs,rfl⟩ ?_ ?_
 ·rintro k s hk ⟨l,a,w,rfl,hs,h1⟩;unfold Xx;simp only[dT (show(k:Int)<len (cR 12 (0:Int)) by unfold len;rw[List.length_replicate];omega),aH];refine(dU hs (w:=[0,100,(-300),700,(-1000),1000]) (by simp) (by simp)).bind λy hy=>?_;simp only[aO (show k<w.length by omega),jy (show k<w.length by omega),al];exact ar.2 ⟨_,_,_,by rw[a_ (by omega)],hy.2,by simpa using h1⟩
 ·rintro s ⟨l,a,w,rfl,hs,h1⟩;unfold Xx;simp only[dF (show ¬((12:Nat):Int)<len (cR 12 (0:Int)) by unfold len;rw[List.length_replicate];omega),aD,aC];exact ar.2 hs
def Qq(hs:Sr l a):Wp (E8 ⟨l,a⟩) λr=>Sr r.1 r.2.1:=by unfold E8;exact(Qo hs).bind λx h1=>(Qo h1).bind λy h2=>(Qo h2).bind λz h3=>ar.2 h3
def ali(hs:Sr l a):Wp (Ps ⟨l,a⟩) λr=>Sr r.2.2.2.2.1 r.2.2.2.2.2.1:=by unfold Ps;refine(Qq hs).bind λx1 h1=>(Qq h1).bind λx2 h2=>(Qq h2).bind λx3 h3=>?_;refine(dU h3 (w:=[1000,1,30,5000,1000000]) (by simp) (by simp)).bind λx4 h4=>?_;refine(dU h4.2 (w:=[100000,1,500,1073741824]) (by simp) (by simp)).bind λx5 h5=>?_;have a4:=h4.1;have a5:=h5.1;simp only[cr,jN,kB]at a4 a5;rw[zK (a:=x4.1) (by omega) (by omega) (by omega)];simp only[al];refine(dU h5.2 (by simp) (by simp)).bind λx7 h7=>?_;rw[zK (a:=x5.1) (by omega) (by omega) (by omega)];simp only[al];exact(dU h7.2 (by simp) (by simp)).bind λx9 h9=>ar.2 h9.2
def ak4(hs:Sr l a):Wp (Pm ⟨l,a⟩) λr=>Sr r.2.2.2.2.1 r.2.2.2.2.2:=by unfold Pm;exact(gT hs (n:=4) (by omega) (by omega)).bind λx h=>(dU h.2 (w:=[0,10,100]) (by simp) (by simp)).bind λx h=>(dU h.2 (w:=[1,3,10]) (by simp) (by simp)).bind λx h=>(dU h.2 (w:=[0,0,2,4]) (by simp) (by simp)).bind λx h=>ar.2 h.2
def ak3(hs:Sr l a):Wp (Pl ⟨l,a⟩ 3) λr=>Sr r.1 r.2.1∧r.2.2.length<=3:=by
 unfold Pl;rw[show W (3+1)=4 from rfl];refine(gT hs (n:=4) (by omega) (by omega)).bind λy hy=>?_;obtain⟨⟨n0,n1⟩,hs⟩:=hy;obtain⟨n,hn⟩:=nr n0;have hn:y.1=(n:Int):=hn;rw[hn]at n1⊢;refine Wp.bind (Q:=λr:List kX×List Int×Int=>Sr r.2.1 r.2.2∧r.1.length<=3) ?_ λr hr=>ar.2 hr;refine dS n (λk s=>∃l a F,s=(((n-k:Nat):Int),F,l,a)∧Sr l a∧F.length<=k) ⟨_,_,[],rfl,hs,kC _⟩ ?_ ?_
 ·rintro k s hk ⟨l,a,F,rfl,e1,e2⟩;unfold XI;simp only[dT (show((n-k:Nat):Int)>0 by omega),aH];refine(ak4 e1).bind λr hr=>?_;rw[cJ (by simp;omega)];simp only[al];refine ar.2 ⟨_,_,F++[⟨r.1,r.2.1,r.2.2.1,r.2.2.2.1⟩],?_,hr,by rw[cU];exact Nat.succ_le_succ e2⟩;rw[nQ (show n-k<1000000000000000000 by omega) (by omega),Nat.sub_sub]
 ·rintro s ⟨l,a,F,rfl,e1,e2⟩;unfold XI;simp only[dF (show ¬((n-n:Nat):Int)>0 by omega),aD,aC];exact ar.2 ⟨e1,by simp only;omega⟩
def alj(hs:Sr l a):Wp (Pt ⟨l,a⟩) λr=>Sr r.2.2.2.2.2.2.2.2.2.1 r.2.2.2.2.2.2.2.2.2.2:=by unfold Pt;exact(dU hs (by simp) (by simp)).bind λx h=>(dU h.2 (by simp) (by simp)).bind λx h=>(dU h.2 (by simp) (by simp)).bind λx h=>(dU h.2 (by simp) (by simp)).bind λx h=>(dU h.2 (by simp) (by simp)).bind λx h=>(dU h.2 (by simp) (by simp)).bind λx h=>(dU h.2 (by simp) (by simp)).bind λx h=>(dU h.2 (by simp) (by simp)).bind λx h=>(dU h.2 (by simp) (by simp)).bind λx h=>ar.2 h.2
def alq(hs:Sr l a):Wp (Pw ⟨l,a⟩) λr=>Sr r.2.2.2.2.1 r.2.2.2.2.2:=by unfold Pw;exact(dU hs (by simp) (by simp)).bind λx h=>(dU h.2 (by simp) (by simp)).bind λx h=>(dU h.2 (by simp) (by simp)).bind λx h=>(dU h.2 (by simp) (by simp)).bind λx h=>ar.2 h.2
def ak'(hs:Sr l a):Wp (Pr ⟨l,a⟩) λr=>Sr r.2.2.2.2.2.2.2.1 r.2.2.2.2.2.2.2.2:=by
 unfold Pr;refine Wp.bind (Q:=λr:ByteArray×List Int×Int×List ByteArray=>Sr r.2.1 r.2.2.1) ?_ λx h=>?_
 ·unfold XF;refine(gT hs (n:=len [dY [100,114,105,108,108],dY [100,105,118,101],dY [97,45,49]]) (by simp[len]) (by simp[len])).bind λy hy=>?_;rw[iI hy.1.1 (by have:=hy.1.2;unfold len at this;omega)];exact ar.2 hy.2
 ·exact(pW h (lo:=1) (hi:=3) (by omega) (by omega) (by omega) (by omega)).bind λx h=>(alq h.2).bind λx h=>(dU h (by simp) (by simp)).bind λx h=>ar.2 h.2
def YZ(hs:Sr l a){n:Int}(h1:n<=1000):Wp (Ja ⟨l,a⟩ n 2) λr=>Sr r.1 r.2.1∧r.2.2.length<=n.toNat:=by
 unfold Ja;refine Wp.bind (Q:=λr:List Int×List Int×Int=>Sr r.2.1 r.2.2∧r.1.length<=n.toNat) ?_ λr hr=>ar.2 hr;refine dS n.toNat (λk s=>∃l a w,s=((k:Int),w,l,a)∧Sr l a∧w.length<=k) ⟨l,a,[],rfl,hs,bw _⟩ ?_ ?_
 ·rintro k s hk ⟨l,a,w,rfl,hs,h1⟩;unfold XG;simp only[dT (show(k:Int)<n by omega),aH];refine(gT hs (n:=2) (by omega) (by omega)).bind λy hy=>?_;refine Wp.bind (Q:=λw:List Int=>w.length<=k+1) ?_ λw hw=>ar.2 ⟨_,_,w,by rw[a_ (by omega)],hy.2,hw⟩;refine Wp.ite (λ_=>?_) λ_=>ar.2 (by omega);rw[cJ (by simp;omega)];exact ar.2 (by simp;omega)
 ·rintro s ⟨l,a,w,rfl,hs,h1⟩;unfold XG;simp only[dF (show ¬((n.toNat:Nat):Int)<n by omega),aD,aC];exact ar.2 ⟨hs,h1⟩
def aqN(i:Int):∃x,KP (dY [115]) (xl (λx4:U8=>x4.n) [U8.mk (rm IntKind.u8 (W (97+i)))])=aa x:=by have h:(xl (λx4:U8=>x4.n) [U8.mk (rm IntKind.u8 (W (97+i)))]).size=1:=rfl;have h2:(dY [115]).size=1:=rfl;exact⟨_,aG (by rw[h,h2];omega)⟩
def akZ(hs:Sr l a):Wp (Pk ⟨l,a⟩) λr=>Sr r.1 r.2.1:=by
 unfold Pk;refine Wp.bind (Q:=λr:List Int×Int×List np=>Sr r.1 r.2.1) ?_ λr hr=>ar.2 hr;refine tD (λs=>12-s.1.toNat) (λs=>∃(k:Nat) (l:List Int) (a:Int) (S:List np),s=((k:Int),l,a,S)∧k<=12∧Sr l a∧S.length<=k) (λs hs=>?_) ⟨0,l,a,[],rfl,by omega,hs,bw _⟩ (by simp only;omega);obtain⟨k,l,a,S,rfl,hk,hs,h1⟩:=hs;unfold ajW;refine Wp.bind (Q:=λr:Bool×List Int×Int=>Sr r.2.1 r.2.2) ?_ λr hr=>?_
 ·refine(gT hs (n:=5) (by omega) (by omega)).bind λy hy=>?_;exact Wp.ite (λ_=>ar.2 hy.2) λ_=>ar.2 hy.2
 refine Wp.ite (λ_=>?_) λ_=>ar.2 hr;refine Wp.ite (λ_=>ar.2 hr) λD4=>?_;have D4:(k:Int)≠12:=by simpa using D4
 obtain⟨x,hx⟩:=aqN (k:Int);refine Wp.pJ hx ?_;refine(dU hr (by simp) (by simp)).bind λx6 h6=>?_;refine(pW h6.2 (lo:=1) (hi:=3) (by omega) (by omega) (by omega) (by omega)).bind λx7 h7=>?_;refine(YZ h7.2 (n:=(k:Int)) (by omega)).bind λx8 h8=>?_;rw[cJ (by simp;omega)];simp only[al];rw[a_ (by omega)];exact ar.2 ⟨⟨k+1,_,_,_,rfl,by omega,h8.1,by simp;omega⟩,by simp only;omega⟩
def alu(hs:Sr l a):Wp (Pz ⟨l,a⟩) λr=>Sr r.2.1 r.2.2:=by unfold Pz;exact(dU hs (by simp) (by simp)).bind λx h=>ar.2 h.2
def alk(hs:Sr l a):Wp (Pu ⟨l,a⟩) λr=>(-60<=r.1∧r.1<=60)∧(-60<=r.2.1∧r.2.1<=60)∧-900<=r.2.2.1∧r.2.2.1<=900:=by unfold Pu;refine(pW hs (by omega) (by omega) (by omega) (by omega)).bind λx1 h1=>?_;refine(pW h1.2 (by omega) (by omega) (by omega) (by omega)).bind λx2 h2=>?_;exact(pW h2.2 (by omega) (by omega) (by omega) (by omega)).bind λx3 h3=>ar.2 ⟨h1.1,h2.1,h3.1⟩
def akS(hs:Sr l a):Wp (Pf ⟨l,a⟩) λr=>Sr r.2.2.2.2.2.2.2.2.2.2.2.2.2.2.2.2.2.2.2.2.2.2.2.2.2.2.2.2.2.2.2.2.1 r.2.2.2.2.2.2.2.2.2.2.2.2.2.2.2.2.2.2.2.2.2.2.2.2.2.2.2.2.2.2.2.2.2.1∧vT ⟨r.2.2.2.2.2.2.2.2.2.1,r.2.2.2.2.2.2.2.2.2.2.1,r.2.2.2.2.2.2.2.2.2.2.2.1⟩:=by
 unfold Pf;refine(ali hs).bind λx1 h1=>?_;refine(akY h1).bind λx2 h2=>?_;refine(alr h2.2).bind λx3 h3=>?_;refine(akW h3.1).bind λx4 h4=>?_;refine(ak3 h4.2).bind λx5 h5=>?_;refine(alj h5.1).bind λx6 h6=>?_;refine(dU h6 (by simp) (by simp)).bind λx7 h7=>?_;refine(ak' h7.2).bind λx8 h8=>?_;refine(akZ h8).bind λx9 h9=>?_;refine(pW h9 (by omega) (by omega) (by omega) (by omega)).bind λbe oE=>?_;refine(pW oE.2 (by omega) (by omega) (by omega) (by omega)).bind λbo M9=>?_;refine(alu M9.2).bind λbJ D4=>?_;have hc:=h3.2;have ht:=h2.1;refine Wp.bind (Q:=λr:List Int×Int×List Consumer=>Sr r.1 r.2.1∧r.2.2.length<=5) ?_ λda UT=>?_
 ·refine dS x3.2.2.2.2.2.2.2.length (λk s=>∃l a C,s=((k:Int),l,a,C)∧Sr l a∧C.length=x3.2.2.2.2.2.2.2.length) ⟨_,_,_,rfl,D4,rfl⟩ ?_ ?_
  ·rintro k s hk ⟨l,a,C,rfl,hs,e1⟩;unfold XD;simp only[ba hk,aH];rw[bY (x:=len x2.2.2.2.2-1) (by unfold len;omega) (by unfold len;omega)];refine(pW hs (lo:= -1) (hi:=len x2.2.2.2.2-1) (by unfold len;omega) (by omega) (by unfold len;omega) (by unfold len;omega)).bind λy hy=>?_;simp only[aO (show k<C.length by omega),jy (show k<C.length by omega),al];exact ar.2 ⟨_,_,_,by rw[a_ (by omega)],hy.2,by simpa using e1⟩
  ·rintro s ⟨l,a,C,rfl,hs,e1⟩;unfold XD;simp only[bI,aD,aC];exact ar.2 ⟨hs,by simp only;omega⟩
 refine Wp.bind (Q:=λr:List Part×List Int×Int=>Sr r.2.1 r.2.2∧r.1.length<=30) ?_ λj9 h26=>?_
 ·refine dS 10 (λk s=>∃l a C,s=((k:Int),C,l,a)∧Sr l a∧C.length<=3*k) ⟨_,_,[],rfl,UT.1,kC _⟩ ?_ ?_
  ·rintro k s hk ⟨l,a,C,rfl,hs,e1⟩;unfold XC;generalize hw:[0,len x3.2.2.2.2.2.2.1,len x3.2.2.2.2.2.1,x3.1,len da.2.2,len x2.2.2.2.2,len x5.2.2,0,0,2]=w;have Mr:w.length=10:=by rw[<-hw];rfl
   simp only[ba (show k<w.length by omega),aH,aO (show k<w.length by omega),al];refine(YZ hs (n:=eu (gt w k) 3) (by unfold eu;split<;>omega)).bind λy hy=>?_;have h3:y.2.2.length<=3:=lK hy.2 (by unfold eu;split<;>omega);refine Wp.bind (Q:=λr:List Part=>r.length<=3*(k+1)) ?_ λr hr=>ar.2 ⟨_,_,r,by rw[a_ (by omega)],hy.1,hr⟩;refine dS y.2.2.length (λj s=>∃D,s=((j:Int),D)∧D.length<=3*k+j) ⟨C,rfl,e1⟩ ?_ ?_
   ·rintro j s hj ⟨D,rfl,d1⟩;unfold XB;simp only[ba hj,aH,aO hj,al];rw[cJ (by simp;omega)];exact ar.2 ⟨_,by rw[a_ (by omega)],by simp;omega⟩
   ·rintro s ⟨D,rfl,d1⟩;unfold XB;simp only[bI,aD,aC];exact ar.2 (by omega)
  ·rintro s ⟨l,a,C,rfl,hs,e1⟩;unfold XC;rw[aK (by simp[len])];exact ar.2 ⟨hs,e1⟩
 refine(Y2 h26.1 (show j9.1.length<=1000 by omega)).bind λib h27=>?_;rw[h27.2.1];refine(Y4 h27.1 (show j9.1.length<=900 by omega)).bind λiR h28=>?_;exact ar.2 ⟨h28.1,h4.1⟩
def qP:List Part:=[Part.mk 1 0,Part.mk 1 1,Part.mk 5 0,Part.mk 5 1,Part.mk 6 0,Part.mk 9 0]
def aaY:kw qP:=by
 refine⟨?_,λx hx=>?_⟩
 ·unfold tf qP;simp[pk]
 ·unfold qP at hx;simp only[cr,jN,kB]at hx;rcases hx with rfl|rfl|rfl|rfl|rfl|rfl<;>exact⟨by decide,by decide,by decide,by decide⟩
def ak6(hs:Sr l a):Wp (Pn ⟨l,a⟩) λr=>Sr r.2.2.2.2.2.2.2.2.2.2.2.2.2.2.2.2.2.2.2.2.2.2.2.2.2.2.2.2.2.2.2.2.1 r.2.2.2.2.2.2.2.2.2.2.2.2.2.2.2.2.2.2.2.2.2.2.2.2.2.2.2.2.2.2.2.2.2.1∧rS ⟨r.2.2.2.2.2.2.1,r.2.2.2.2.2.2.2.2.2.2.2.2.2.2.2.2.2.2.2.2.2.2.2.2.2.2.2.2.2.2.2.2.2.2.2.2.2.2.2.2.2.2.2.2.1,r.2.2.2.2.2.2.2.2.2.2.2.2.2.2.2.2.2.2.2.2.2.2.2.2.2.2.2.2.2.2.2.2.2.2.2.2.2.2.2.2.2.2.2.2.2.1,r.2.2.2.2.2.2.2.2.2.2.2.2.2.2.2.2.2.2.2.2.2.2.2.2.2.2.2.2.2.2.2.2.2.2.2.2.2.2.2.2.2.2.2.2.2.2.1,r.2.2.2.2.2.2.2.1,r.2.2.2.2.2.2.2.2.1⟩∧vT ⟨r.2.2.2.2.2.2.2.2.2.1,r.2.2.2.2.2.2.2.2.2.2.1,r.2.2.2.2.2.2.2.2.2.2.2.1⟩∧vU ⟨r.2.2.2.2.1,r.2.2.2.2.2.1,r.2.2.2.2.2.2.2.2.2.2.2.2.2.2.2.2.2.2.2.2.2.2.2.2.2.2.2.2.2.2.2.2.2.2.2.2.2.2.2.2.2.2.2.1⟩∧Jj ⟨r.2.2.2.2.2.2.2.2.2.2.2.2.2.2.2.2.2.2.2.2.2.2.2.2.2.2.2.2.2.2.2.2.2.2.2.2.2.2.2.2.2.2.2.2.2.2.2.1,r.2.2.2.2.2.2.2.2.2.2.2.2.2.2.2.2.2.2.2.2.2.2.2.2.2.2.2.2.2.2.2.2.2.2.2.2.2.2.2.2.2.2.2.2.2.2.2.2.1,r.2.2.2.2.2.2.2.2.2.2.2.2.2.2.2.2.2.2.2.2.2.2.2.2.2.2.2.2.2.2.2.2.2.2.2.2.2.2.2.2.2.2.2.2.2.2.2.2.2.1⟩∧r.2.2.2.2.2.2.2.2.2.2.2.2.2.2.2.2.2.2.2.2.2.2.2.2.2.2.2.2.2.2.2.2.2.2.2.2.2.2.2.2.2.2.2.2.2.2.2.1=qP:=by
 unfold Pn;refine(akS hs).bind λx1 h1=>?_;obtain⟨hs,hv⟩:=h1;refine Wp.bind (Q:=λr=>∃l a br S,r=(l,a,2,1800,50,br,S)∧Sr l a∧cD (bd 2 br S [])∧br.length=3∧S.length=2∧∀x∈S,x.ig=100∧mG x) ?_ λx6 h6=>?_
 ·refine dS 2 (λk s=>∃l a br S,s=((k:Int),l,a,2,1800,50,br,S)∧Sr l a∧cD (bd 2 br S [])∧br.length=1+k∧S.length=k∧∀x∈S,x.ig=100∧mG x) ⟨_,_,[⟨1,0,1⟩],[],rfl,hs,cD.tie (br:=[]) (S:=[]) (C:=[]) ⟨λk hk=>absurd hk (by simp),λj hj=>absurd hj (by simp),λj hj=>absurd hj (by simp)⟩ (by omega) (by omega) (by omega),rfl,rfl,λx hx=>by cases hx⟩ ?_ ?_
  ·rintro k s hk ⟨l,a,br,S,rfl,hs,e1,e2,e3,e4⟩;unfold XK;simp only[dT (show(k:Int)<2 by omega),aH];rw[cJ (by simp;omega)];simp only[al];refine(gT hs (n:=3) (by omega) (by omega)).bind λy hy=>?_;rw[cJ (by simp;omega)];simp only[al];refine ar.2 ⟨_,_,br++[⟨2,(k:Int),(k:Int)⟩],S++[⟨100,0,y.1⟩],by rw[a_ (by omega)],hy.2,?_,by simp;omega,by simp;omega,λx hx=>?_⟩
   ·have:=e1.src (a:=(k:Int)) (by omega) (by omega) ⟨100,0,y.1⟩;rwa[show len S=(k:Int) by unfold len;omega]at this
   ·rcases bz.1 hx with hx|hx
    ·exact e4 x hx
    ·rw[dZ.1 hx];have:=hy.1;exact⟨rfl,⟨by show(1:Int)<=100;omega,by show(100:Int)<=50000;omega⟩,⟨by show(0:Int)<=0;omega,by show(0:Int)<=100;omega⟩,this.1,by show y.1<=600;omega⟩
  ·rintro s ⟨l,a,br,S,rfl,hs,e1,e2,e3,e4⟩;unfold XK;simp only[dF (show ¬((2:Nat):Int)<2 by omega),aD,aC];exact ar.2 ⟨l,a,br,S,rfl,hs,e1,by omega,e3,e4⟩
 obtain⟨l,a,br,S,rfl,hs,e1,e2,e3,e4⟩:=h6;simp only;obtain⟨mk,vr⟩:∃mk:List Int->Int->List b8->List cG->List Consumer->_,mk=λl a M br C=>(l,a,x1.1,x1.2.1,x1.2.2.1,x1.2.2.2.1,(30:Int),(30:Int),x1.2.2.2.2.2.2.1,x1.2.2.2.2.2.2.2.1,x1.2.2.2.2.2.2.2.2.1,x1.2.2.2.2.2.2.2.2.2.1,x1.2.2.2.2.2.2.2.2.2.2.1,x1.2.2.2.2.2.2.2.2.2.2.2.1,x1.2.2.2.2.2.2.2.2.2.2.2.2.1,x1.2.2.2.2.2.2.2.2.2.2.2.2.2.1,x1.2.2.2.2.2.2.2.2.2.2.2.2.2.2.1,x1.2.2.2.2.2.2.2.2.2.2.2.2.2.2.2.1,x1.2.2.2.2.2.2.2.2.2.2.2.2.2.2.2.2.1,x1.2.2.2.2.2.2.2.2.2.2.2.2.2.2.2.2.2.1,x1.2.2.2.2.2.2.2.2.2.2.2.2.2.2.2.2.2.2.1,x1.2.2.2.2.2.2.2.2.2.2.2.2.2.2.2.2.2.2.2.1,x1.2.2.2.2.2.2.2.2.2.2.2.2.2.2.2.2.2.2.2.2.1,x1.2.2.2.2.2.2.2.2.2.2.2.2.2.2.2.2.2.2.2.2.2.1,x1.2.2.2.2.2.2.2.2.2.2.2.2.2.2.2.2.2.2.2.2.2.2.1,x1.2.2.2.2.2.2.2.2.2.2.2.2.2.2.2.2.2.2.2.2.2.2.2.1,x1.2.2.2.2.2.2.2.2.2.2.2.2.2.2.2.2.2.2.2.2.2.2.2.2.1,x1.2.2.2.2.2.2.2.2.2.2.2.2.2.2.2.2.2.2.2.2.2.2.2.2.2.1,x1.2.2.2.2.2.2.2.2.2.2.2.2.2.2.2.2.2.2.2.2.2.2.2.2.2.2.1,x1.2.2.2.2.2.2.2.2.2.2.2.2.2.2.2.2.2.2.2.2.2.2.2.2.2.2.2.1,x1.2.2.2.2.2.2.2.2.2.2.2.2.2.2.2.2.2.2.2.2.2.2.2.2.2.2.2.2.1,x1.2.2.2.2.2.2.2.2.2.2.2.2.2.2.2.2.2.2.2.2.2.2.2.2.2.2.2.2.2.1,x1.2.2.2.2.2.2.2.2.2.2.2.2.2.2.2.2.2.2.2.2.2.2.2.2.2.2.2.2.2.2.1,x1.2.2.2.2.2.2.2.2.2.2.2.2.2.2.2.2.2.2.2.2.2.2.2.2.2.2.2.2.2.2.2.1,(2:Int),(1800:Int),(50:Int),M,br,C):=⟨_,rfl⟩;refine Wp.bind (Q:=λr=>∃l a M br C,r=mk l a M br C∧Sr l a∧cD (bd 2 br S C)∧br.length=7∧C.length=4∧(∀j,j<C.length->(gt C j).eT=20∧lJ (gt C j) j)∧M.length=4∧∀t∈M,uz t) ?_ λdD h17=>?_
 ·refine dS 4 (λk s=>∃l a M br C,s=((k:Int),mk l a M br C)∧Sr l a∧cD (bd 2 br S C)∧br.length=3+k∧C.length=k∧(∀j,j<C.length->(gt C j).eT=20∧lJ (gt C j) j)∧M.length=k∧∀t∈M,uz t) ⟨l,a,[],br,[],by subst vr;rfl,hs,e1,by omega,rfl,λj hj=>absurd hj (by simp),rfl,λx hx=>by cases hx⟩ ?_ ?_
  ·rintro k s hk ⟨l,a,M,br,C,rfl,hs,f1,f2,f3,f4,f5,f6⟩;subst vr;unfold XJ;simp only[dT (show(k:Int)<4 by omega),aH];rw[RR (a:=(k:Int)) (by omega) (by omega)];simp only[al];rw[cJ (by simp;omega)];simp only[al];refine(dU hs (w:=[0,5,20]) (by simp) (by simp)).bind λbe oE=>?_;refine(gT oE.2 (n:=3) (by omega) (by omega)).bind λbo M9=>?_;rw[cJ (by simp;omega)];simp only[al];rw[zK (a:=(k:Int)) (by omega) (by omega) (by omega)];simp only[al];refine(dU M9.2 (w:=[50,50,5]) (by simp) (by simp)).bind λcF D3=>?_;refine(dU D3.2 (w:=[1,2]) (by simp) (by simp)).bind λcu h15=>?_;rw[cJ (by simp;omega)];simp only[al];have E3:=oE.1;have Xq:=M9.1;have a14:=D3.1;have a15:=h15.1;simp only[cr,jN,kB]at E3 a14 a15;refine ar.2 ⟨_,_,M++[⟨3,(k:Int)/2,40,cF.1,cu.1,[]⟩],br++[⟨3,(k:Int)% 2,(k:Int)⟩],C++[⟨20,be.1,bo.1,(k:Int),[]⟩],by rw[a_ (by omega)],h15.2,?_,by simp;omega,by simp;omega,λj hj=>?_,by simp;omega,λt ht=>?_⟩
   ·have:=f1.iL (a:=(k:Int)% 2) (by omega) (by omega) ⟨20,be.1,bo.1,(k:Int),[]⟩;rwa[show len C=(k:Int) by unfold len;omega]at this
   ·rw[sM (by simpa using hj)];by_cases dh:j<C.length
    ·rw[aG dh];exact f4 j dh
    ·rw[aK dh];exact⟨rfl,λi hi=>absurd hi (by simp),⟨by show(0:Int)<=20;omega,by show(20:Int)<=50000;omega⟩,⟨by show 0<=be.1;omega,by show be.1<=20;omega⟩,⟨Xq.1,by show bo.1<=15;omega⟩,⟨by show(-1:Int)<=k;omega,by show(k:Int)<=7;omega⟩,by show(0:Nat)<=4;omega⟩
   ·rcases bz.1 ht with ht|ht
    ·exact f6 t ht
    ·rw[dZ.1 ht];exact⟨⟨⟨⟨by show(1:Int)<=3;omega,by show(3:Int)<=3;omega⟩,⟨by show 0<=(k:Int)/2;omega,by show(k:Int)/2<=1;omega⟩,⟨by show(0:Int)<=40;omega,by show(40:Int)<=5000;omega⟩,⟨by show 0<=cF.1;omega,by show cF.1<=5000;omega⟩,by show 1<=cu.1;omega,by show cu.1<=100;omega⟩,by show(0:Nat)<=4;omega⟩,λx hx=>by cases hx⟩
  ·rintro s ⟨l,a,M,br,C,rfl,hs,f1,f2,f3,f4,f5,f6⟩;subst vr;unfold XJ;simp only[dF (show ¬((4:Nat):Int)<4 by omega),aD,aC];exact ar.2 ⟨l,a,M,br,C,rfl,hs,f1,by omega,f3,f4,f5,f6⟩
 obtain⟨l,a,M,br,C,rfl,hs,f1,f2,f3,f4,f5,f6⟩:=h17;subst vr;simp only;refine(Y2 hs (P:=qP) (by simp[qP])).bind λda UT=>?_;obtain⟨hs,q1,q2,q3⟩:=UT;rw[q1];refine(Y4 hs (P:=qP) (by simp[qP])).bind λdN h19=>?_;obtain⟨hs,g1,g2⟩:=h19;refine ar.2 ⟨hs,?_,hv,?_,?_,g1⟩
 ·exact⟨⟨by show(1:Int)<=2;omega,by show(2:Int)<=4;omega⟩,by show br.length<=18;omega,by show S.length<=4;omega,by show C.length<=5;omega,⟨⟨λk hk=>f1.1 k hk,f1.2.1,f1.2.2⟩,⟨by show(0:Int)<=1800;omega,by show(1800:Int)<=1800;omega⟩,⟨by show(0:Int)<=50;omega,by show(50:Int)<=6000;omega⟩,λk hk=>(e4 _ (du hk)).2,λk hk=>(f4 k hk).2⟩,λx hx=>by have hx:x∈S:=hx;have:=(e4 x hx).1;omega,λx hx=>by have hx:x∈C:=hx;obtain⟨j,hj,rfl⟩:=om hx;have:=(f4 j hj).1;omega⟩
 ·exact⟨⟨⟨by show(0:Int)<=30;omega,by show(30:Int)<=200;omega⟩,by show(1:Int)<=30;omega,by show(30:Int)<=200;omega⟩,by show M.length<=8;omega,λi hi=>f6 _ (du hi)⟩
 ·refine⟨?_,?_,q2,?_,?_⟩
  ·simp only[g1];simp[qP]
  ·simp only[g1];exact aaY
  ·simp only[g1];exact q3
  ·simp only[g1];exact g2
end
end Rx
namespace Rx
open Classical
section
variable {b:au} {q:aw} {tm:Int} {R:List eM} {E:List Event}
def aBY(hl:gj b)(k:Int):bsize b k<=24:=by
 have:=hl.jd;have:=hl.cZ;have:=hl.src;have:=hl.iL;unfold bsize;split
 ·omega
 ·split
  ·omega
  ·split
   ·omega
   ·split<;>omega
def aBZ{k:Int}(h:1<=bsize b k):1<=k∧k<=4:=by
 unfold bsize at h;by_cases h1:k=1
 ·omega
 by_cases h2:k=2
 ·omega
 by_cases h3:k=3
 ·omega
 by_cases h4:k=4
 ·omega
 rw[aK h1,aK h2,aK h3,aK h4]at h;omega
def ajk(h:bi b q=0):kw q.aR:=by
 obtain⟨⟨hl,hg⟩,_,⟨hB,_⟩,_⟩:=ff.1 h;have hv:∀k,k<q.aR.length->VP (gt q.aR k):=λk hk=>by obtain⟨⟨h1,h2⟩,_⟩:=hB k hk;have h3:=aBY hl (gt q.aR k).Kind;have h4:=aBZ (b:=b) (k:=(gt q.aR k).Kind) (by omega);exact⟨h4.1,by omega,h1,by omega⟩
 have aU:∀j i,i<j->j<q.aR.length->pk (gt q.aR i)<pk (gt q.aR j):=by
  intro j;induction j with
  |zero=>intro i hi;omega
  |succ j ih=>
   intro i hi hj;have h1:=(hB (j+1) hj).2 (by omega);rw[PN]at h1;have v1:=hv j (by omega);have v2:=hv (j+1) hj;have h2:pk (gt q.aR j)<pk (gt q.aR (j+1)):=by obtain⟨_,_,a1,a2⟩:=v1;obtain⟨_,_,c1,c2⟩:=v2;unfold before at h1;unfold pk;omega
   by_cases iJ:i=j
   ·rw[iJ];exact h2
   ·have:=ih i (by omega) (by omega);omega
 refine⟨B1.2 λi j hi hj iJ=>?_,λx hx=>?_⟩
 ·rw[<-fH hi,<-fH hj];exact aU j i iJ hj
 ·obtain⟨k,hk,rfl⟩:=om hx;exact hv k hk
structure I9(v:jJ):Prop where
 gen:rS v.au
 tab:vT v.g9
 KA:vU v.di
 Ii:Jj v.dw
 C8:v.dw.fh=qP
def Zq(v:jJ)(hv:I9 v)(h:bi v.au q=0)(hn:q.aR.length<=4):Pb (q.aR++qP) v.dw:=by
 refine⟨by rw[cU];show q.aR.length+6<=12;omega,λx hx=>?_,λx hx=>?_,by have:=hv.Ii.ln;omega⟩
 ·rcases bz.1 hx with hx|hx
  ·exact(ajk h).2 x hx
  ·exact aaY.2 x hx
 ·have:=(hv.Ii.lks.1 x hx).1.2;rw[hv.C8]at this;exact bz.2 (.inr this)
def alB{A l:List Int}(hA:A.length<=1000)(hl:l.length<=1000)(h:∀i,i<A.length->0<=gt A i∧gt A i<=5000):Wp (N8 A l) λr=>r.length=A.length∧∀i,i<A.length->0<=gt r i∧gt r i<=5000:=by
 unfold N8 uU;rw[cJ (by simp;omega)];simp only[al,oS];refine Wp.bind (Q:=λr:List Int=>r.length=A.length∧∀i,i<A.length->0<=gt r i∧gt r i<=5000) ?_ λr hr=>ar.2 hr;refine dS l.length (λk s=>∃r,s=((k:Int),r)∧r.length=A.length∧∀i,i<A.length->0<=gt r i∧gt r i<=5000) ⟨A,rfl,rfl,h⟩ ?_ ?_
 ·rintro k s hk ⟨r,rfl,h1,h2⟩;unfold V5;simp only[ba hk,aH,aO hk,al];refine Wp.bind (Q:=λc=>c=ab->0<=gt l k∧gt l k<(r.length:Int)) ?_ λc hc=>?_
  ·refine Wp.ite (λh1=>ar.2 λh2=>?_) λ_=>ar.2 λh=>by cases h
   exact⟨jw h1,jw h2⟩
  ·refine Wp.bind (Q:=λr:List Int=>r.length=A.length∧∀i,i<A.length->0<=gt r i∧gt r i<=5000) ?_ λr hr=>ar.2 ⟨r,by rw[a_ (by omega)],hr⟩;refine Wp.ite (λhh=>?_) λ_=>ar.2 ⟨h1,h2⟩;obtain⟨c0,c1⟩:=hc hh;simp only[iI c0 c1,Rz c0 c1,al];refine ar.2 ⟨by simpa using h1,λi hi=>?_⟩;rw[gE (by omega)];split
   ·omega
   ·exact h2 i hi
 ·rintro s ⟨r,rfl,h1,h2⟩;unfold V5;simp only[bI,aD,aC];exact ar.2 ⟨h1,h2⟩
def Y8{v:jJ}(hv:I9 v)(g:Gd v.au q)(hn:q.aR.length<=4)(t0:0<=tm)(t1:tm<=20)(hR:BP v.au tm R){l:List Part}(hl:l.length<=1)(hm:∀x∈l,x∈qP):Wp (yQ v ⟨tm,q,R,[]⟩ [] l) λr=>r.2.1=0∧r.2.2.2.2.2.2.2.2.length=v.di.cQ.length∧∀i,i<v.di.cQ.length->0<=gt r.2.2.2.2.2.2.2.2 i∧gt r.2.2.2.2.2.2.2.2 i<=5000:=by
 have hb:=hv.gen.sm;have pC:=hv.gen.jd;have hRl:=hR.1;have hU:=Zq v hv g.1.2 hn;unfold yQ;simp only[apZ hb hv.tab g t0 (by omega) hR,VW hv.Ii,al,me,aD,aC];rw[ae4 (by simp) (by simp;omega)];simp only[al,oW,List.flatten_nil,oS,pR];refine(Y5 (VW hv.Ii) hU (by rw[cU];omega) λx hx=>?_).bind λF hF=>?_
 ·rcases bz.1 hx with hx|hx
  ·exact bz.2 (.inl hx)
  ·exact bz.2 (.inr (hm x hx))
 have hFl:=hF.1;refine Wp.bind (Q:=λr=>∃L q' E',r= .inl (L,0,tm,q'.aF,q'.aj,q'.aW,q'.aR,R,E')∧Gd v.au q'∧L.length<=12∧E'.length<=13000000) ?_ λr hr=>?_
 ·refine dS F.length (λk s=>∃L q' E',s=((k:Int),L,0,tm,q'.aF,q'.aj,q'.aW,q'.aR,R,E')∧Gd v.au q'∧L.length<=k∧E'.length<=1000001*k) ⟨[],q,[],rfl,g,bw _,kC _⟩ ?_ ?_
  ·rintro k s hk ⟨L,q',E',rfl,g',h1,h2⟩;unfold VQ;simp only[ba hk,aH,aO hk,al];refine Wp.bind (Q:=λr=>∃L q' E',r= .inl (L,0,tm,q'.aF,q'.aj,q'.aW,q'.aR,R,E')∧Gd v.au q'∧L.length<=k+1∧E'.length<=1000001*(k+1)) ?_ λr hr=>?_
   ·refine Wp.bind (Q:=λL:List Int=>L.length<=k+1) ?_ λL hL=>?_
    ·refine Wp.ite (λ_=>?_) λ_=>ar.2 (by omega);rw[cJ (by simp;omega)];exact ar.2 (by simp;omega)
    refine Wp.bind (Q:=λ_=>True) ?_ λc _=>?_
    ·refine Wp.ite (λ_=>ar.2 trivial) λ_=>?_;rw[M0 (by have:=(ff.1 g.1.2).2.2.1.2;omega)];exact ar.2 trivial
    refine Wp.ite (λ_=>ar.2 ⟨L,q',E',rfl,g',hL,lK h2 (by rw[Nat.mul_succ];exact Nat.le_add_right _ _)⟩) λ_=>?_;refine(ak_ (R:=R) (E:=E') hb g' t0 (by omega) (by omega) (by omega) rfl).bind λr hr=>?_;obtain⟨q2,E2,z,rfl,g2,e2⟩:=hr;simp only[me,aD,aC];exact ar.2 ⟨L,q2,E2,rfl,g2,hL,lK e2 (by rw[Nat.mul_succ];exact Nat.add_le_add_right h2 _)⟩
   ·obtain⟨L,q2,E2,rfl,g2,e1,e2⟩:=hr;exact ar.2 ⟨L,q2,E2,by rw[a_ (by omega)],g2,e1,e2⟩
  ·rintro s ⟨L,q',E',rfl,g',h1,h2⟩;unfold VQ;simp only[bI,aD,aC];exact ar.2 ⟨L,q',E',rfl,g',by omega,by omega⟩
 obtain⟨L,q',E',rfl,g',h1,h2⟩:=hr;simp only[bu];refine(aly (p:=q') hb g'.1 hv.KA).bind λA hA=>?_;have h8:=hv.KA.2.1;rw[hA.1];simp only[me,aD,aC];rw[axT g'.1.1 (by omega) (by omega)];simp only[al];refine(alB (A:=A.2) (l:=L) (by have:=hA.2.1;omega) (by omega) λi hi=>hA.2.2 i (by have:=hA.2.1;omega)).bind λr hr=>?_;exact ar.2 ⟨rfl,by show r.length=_;rw[hr.1];exact hA.2.1,λi hi=>hr.2 i (by have:=hA.2.1;omega)⟩
end
end Rx
namespace Rx
open Classical
section
def Qm{l:List Int}(hl:l.length<=1000)(a c:Int):Wp (rP l a c) λr=>r=ab->∀i,i<l.length->a<=gt l i∧gt l i<=c:=by
 unfold rP Kj J4;refine Wp.bind (Q:=λr:Bool=>r=ai->∀i,i<l.length->a<=gt l i∧gt l i<=c) ?_ λr hr=>ar.2 λh=>hr (by simpa using h);refine Wp.bind (Q:=λr:Int=>r<0->∀i,i<l.length->a<=gt l i∧gt l i<=c) ?_ λr hr=>ar.2 λh=>hr (by have:=pN h;omega);refine Wp.bind (Q:=λr:Unit⊕Int=>(∃k:Nat,r= .inr (k:Int))∨(r= .inl ()∧∀i,i<l.length->a<=gt l i∧gt l i<=c)) ?_ λr hr=>?_
 ·refine dS l.length (λk s=>s=(k:Int)∧∀i,i<k->a<=gt l i∧gt l i<=c) ⟨rfl,λi hi=>by omega⟩ ?_ ?_
  ·rintro k s hk ⟨rfl,h⟩;unfold zE O8;simp only[ba hk,aH,aO hk,al];by_cases h1:gt l k<a
   ·simp only[dT h1,aH,al];exact ar.2 (.inl ⟨k,rfl⟩)
   ·simp only[dF h1,aD,aC,al];refine Wp.ite (λ_=>ar.2 (.inl ⟨k,rfl⟩)) λh2=>ar.2 ⟨by rw[a_ (by omega)],λi hi=>?_⟩;have h2:¬gt l k>c:=pN h2;by_cases eL:i=k
    ·rw[eL];omega
    ·exact h i (by omega)
  ·rintro s ⟨rfl,h⟩;unfold zE;simp only[bI,aD,aC];exact ar.2 (.inr ⟨rfl,h⟩)
 ·rcases hr with⟨k,rfl⟩|⟨rfl,h⟩
  ·exact ar.2 λh=>by omega
  ·exact ar.2 λ_=>h
def akX{x:di}(h:vU x)(f:fa):Wp (O_ x f) λr=>r.2.2.2=0->(-500000<=r.1∧r.1<=500000)∧(-500000<=r.2.1∧r.2.1<=500000)∧-500000<=r.2.2.1∧r.2.2.1<=500000:=by
 unfold O_;rw[N2 h];simp only[al,me,aD,aC];refine Wp.bind (Q:=λc=>c=ai-> -5000<=f.dz∧f.dz<=5000) ?_ λc hc=>?_
 ·refine(Qm (l:=[f.dz,f.fk]) (by simp) (-5000) 5000).bind λc hc=>?_;refine Wp.ite (λ_=>ar.2 λh=>by cases h) λhh=>?_;refine(Qm (l:=[f.fI]) (by simp) (-500000) 500000).bind λc2 _=>ar.2 λ_=>?_;have:=hc (by simpa using hh) 0 (by simp);exact this
 refine Wp.ite (λ_=>ar.2 λh=>by cases h) λhh=>?_;refine(ake _ _).bind λy _=>?_;refine(Qm (l:=[y.1,W (f.fk-y.1)]) (by simp) (-500000) 500000).bind λc2 h2=>?_;refine Wp.ite (λ_=>ar.2 λh=>by cases h) λh3=>ar.2 λ_=>?_;have h4:=h2 (by simpa using h3);have h5:=hc hh;exact⟨by simp only;omega,h4 0 (by simp),h4 1 (by simp)⟩
def apP(a:Int){l:List Int}(hl:l.length<=1000):Wp (Ln a l) λr=>(∀i,i<l.length->W (-a)<=gt l i∧gt l i<=a)->r=ab:=by
 unfold Ln;refine Wp.bind (Q:=λr=>((∀i,i<l.length->W (-a)<=gt l i∧gt l i<=a)->r= .inl ())) ?_ λr hr=>?_
 ·refine dS l.length (λk s=>s=(k:Int)) rfl ?_ ?_
  ·rintro k s hk rfl;unfold R3;simp only[ba hk,aH,aO hk,al];by_cases h1:gt l k<W (-a)
   ·simp only[dT h1,aH,al];exact ar.2 λh=>by have:=h k hk;omega
   ·simp only[dF h1,aD,aC,al];refine Wp.ite (λh2=>ar.2 λh=>?_) λ_=>ar.2 (by rw[a_ (by omega)]);have:=h k hk;have:=jw h2;omega
  ·rintro s rfl;unfold R3;simp only[bI,aD,aC];exact ar.2 λ_=>rfl
 ·cases r with
  |inl u=>exact ar.2 λ_=>rfl
  |inr c=>exact ar.2 λh=>by have:=hr h;cases this
def JJ(f:fa):Wp (EB f) λr=>((-1000000<=f.dz∧f.dz<=1000000)∧(-1000000<=f.fk∧f.fk<=1000000)∧-1000000<=f.fI∧f.fI<=1000000)->r=ab:=by
 unfold EB;refine(apP 1000000 (l:=[f.dz,f.fk,f.fI]) (by simp)).bind λr hr=>ar.2 λh=>hr λi hi=>?_;rw[show W (-1000000)= -1000000 from bY (by omega) (by omega)];match i,hi with
 |0,_=>exact h.1
 |1,_=>exact h.2.1
 |2,_=>exact h.2.2
def AbL(x:di)(A:List Int):Prop:=A.length=x.cQ.length∧∀i,i<x.cQ.length->0<=gt A i∧gt A i<=5000
def Qn{x:di}(h:vU x){A:List Int}(hA:AbL x A)(f:fa):Wp (rM x A f) λ_=>True:=by
 unfold rM;refine Wp.bind (Q:=λ_=>True) ?_ λr _=>?_
 ·unfold V6 V7;refine Wp.bind (Q:=λr=>r.2.2.2=0->(-500000<=r.1∧r.1<=500000)∧(-500000<=r.2.1∧r.2.1<=500000)∧-500000<=r.2.2.1∧r.2.2.1<=500000) ?_ λr hr=>?_
  ·refine(JJ f).bind λc _=>?_;refine Wp.ite (λ_=>ar.2 λh=>by cases h) λ_=>?_;unfold V4 Iv;simp only[al];exact(akX h _).bind λy hy=>ar.2 hy
  ·refine Wp.ite (λ_=>ar.2 trivial) λhe=>?_;have hd:=hr (by simpa using he);refine(alw h (A:=A) (d:=⟨r.1,r.2.1,r.2.2.1⟩) hA.1 (λi hi=>hA.2 i (by have:=hA.1;omega)) hd.1 hd.2.1 hd.2.2).bind λy _=>?_;exact Wp.ite (λ_=>ar.2 trivial) λ_=>ar.2 trivial
 ·refine Wp.bind (Q:=λ_=>True) ?_ λ_ _=>ar.2 trivial;exact Wp.ite (λ_=>ar.2 trivial) λ_=>ar.2 trivial
def apQ(n:Int):Wp (GK n 100) λ_=>True:=by unfold GK mQ kL;rw[aK (by omega),aK (by omega)];simp only[al];refine Wp.bind (Q:=λ_=>True) ?_ λ_ _=>ar.2 trivial;exact Wp.ite (λ_=>ar.2 trivial) λ_=>ar.2 trivial
def R_(x n:Int):Wp (yU x n) λ_=>True:=by unfold yU Lo;refine Wp.bind (Q:=λ_=>True) ?_ λ_ _=>ar.2 trivial;refine(apQ _).bind λy _=>?_;refine Wp.bind (Q:=λ_=>True) ?_ λ_ _=>ar.2 trivial;exact Wp.ite (λ_=>ar.2 trivial) λ_=>ar.2 trivial
def ap1(f:fa)(n:Int):Wp (EC f n) λ_=>True:=by
 unfold EC;refine Wp.bind (Q:=λ_=>True) ?_ λc _=>?_
 ·refine(JJ f).bind λc _=>?_;refine Wp.ite (λ_=>ar.2 trivial) λ_=>?_;exact Wp.ite (λ_=>ar.2 trivial) λ_=>ar.2 trivial
 refine Wp.ite (λ_=>ar.2 trivial) λ_=>?_;unfold N7;refine Wp.bind (Q:=λ_=>True) ?_ λ_ _=>ar.2 trivial;exact(R_ _ _).bind λ_ _=>(R_ _ _).bind λ_ _=>(R_ _ _).bind λ_ _=>ar.2 trivial
def Sa{x:Int}(h1: -1000000<=x)(h2:x<=1000000):yU x 100=aa x:=by unfold yU Lo GK mQ kL;rw[bY (x:=x*100) (by omega) (by omega),aK (by omega),aK (by omega)];have e1:(x*100).tdiv 100=x:=Int.mul_tdiv_cancel x (by decide);have e2:(x*100).tmod 100=0:=Int.mul_tmod_left x 100;rw[e1,e2];simp only[al,show ak ((0:Int)<0)=ai from rfl,aD,aC];rw[bY (x:=x) (by omega) (by omega),bY (x:=x*100) (by omega) (by omega),show x*100-x*100=0 by omega];simp only[show W 0=0 from rfl,show W (100-0)=100 from rfl,show ak ((0:Int)>=100)=ai from rfl,aD,aC,al]
def Ji(f:fa):Prop:=(-60<=f.dz∧f.dz<=60)∧(-60<=f.fk∧f.fk<=60)∧-900<=f.fI∧f.fI<=900
def ap3{f:fa}(h:Ji f):EC f 100=aa (f.dz,f.fk,f.fI):=by obtain⟨h1,h2,h3⟩:=h;obtain⟨c,hc,ie⟩:=JJ f;have ie:=ie ⟨by omega,by omega,by omega⟩;subst ie;unfold EC N7;rw[hc];simp only[al,eg,aD,aC,show ak ((100:Int)<0)=ai from rfl,show ak ((100:Int)>200)=ai from rfl,Sa (show-1000000<=f.dz by omega) (by omega),Sa (show-1000000<=f.fk by omega) (by omega),Sa (show-1000000<=f.fI by omega) (by omega)]
def ak2{x:di}(h:vU x){A:List Int}(hA:AbL x A){f:fa}(hf:Ji f):Wp (Iu x A f) λn=>n>=100->rM x A f=aa ab:=by
 unfold Iu;refine(JJ f).bind λc _=>?_;refine Wp.ite (λ_=>ar.2 λh=>by omega) λ_=>?_;refine Wp.bind (Q:=λn=>n>=100->rM x A f=aa ab) ?_ λn hn=>ar.2 hn;refine tD (λs=>300-s.2.toNat) (λs=>∃k:Nat,s.2=10*(k:Int)∧k<=21∧s.1<=10*(k:Int)-1∧(k>=11->rM x A f=aa ab)) (λs hs=>?_) ⟨0,rfl,by omega,by simp only;omega,λh=>by omega⟩ (by simp only;omega);obtain⟨s1,s2⟩:=s;obtain⟨k,e1,e2,e3,e4⟩:=hs;simp only at e1 e3 e4;subst e1;unfold afc;refine Wp.bind (Q:=λc=>c=ab->k<=20∧(k=10->rM x A f=aa ab)) ?_ λc hc=>?_
 ·refine Wp.ite (λhh=>?_) λ_=>ar.2 λh=>by cases h
  have hh:10*(k:Int)<=200:=jw hh;by_cases oE:k=10
  ·subst oE;rw[show(10*((10:Nat):Int))=100 from rfl,ap3 hf];simp only[al];obtain⟨m,hm,_⟩:=Qn h hA f;have mB:rM x A ⟨f.dz,f.fk,f.fI⟩=aa m:=hm;rw[mB];exact ar.2 λh=>⟨by omega,λ_=>by rw[h]⟩
  ·exact(ap1 f _).bind λy _=>(Qn h hA _).bind λz _=>ar.2 λ_=>⟨by omega,λh=>(oE h).elim⟩
 ·refine Wp.ite (λhh=>?_) λ_=>ar.2 λh=>e4 (by simp only at h;omega);obtain⟨c1,c2⟩:=hc hh;rw[bY (x:=10*(k:Int)+10) (by omega) (by omega)];refine ar.2 ⟨⟨k+1,by simp only;omega,by omega,by simp only;omega,λhg=>?_⟩,by simp only;omega⟩;by_cases hk:k=10
  ·exact c2 hk
  ·exact e4 (by omega)
variable {q:aw} {tm:Int} {R:List eM}
def Fl(v:jJ)(p:cN)(f:fa)(x:jv):Prop:=∃r n,yQ v p [] [x.Part]=aa r∧r.2.1=0∧rM v.di r.2.2.2.2.2.2.2.2 f=aa x.xp∧Iu v.di r.2.2.2.2.2.2.2.2 f=aa n∧(n>=100->x.xp=ab)
def ald{v:jJ}(hv:I9 v)(g:Gd v.au q)(hn:q.aR.length<=4)(t0:0<=tm)(t1:tm<=20)(hR:BP v.au tm R){f:fa}(hf:Ji f){x:Part}(hx:x∈qP):Wp (NV v ⟨tm,q,R,[]⟩ [] [x] f) λh=>Fl v ⟨tm,q,R,[]⟩ f ⟨x,h⟩:=by obtain⟨r,hr,h1,h2⟩:=Y8 (l:=[x]) hv g hn t0 t1 hR (by simp) (λy hy=>by rw[dZ.1 hy];exact hx);obtain⟨m,hm,_⟩:=Qn hv.KA (A:=r.2.2.2.2.2.2.2.2) h2 f;obtain⟨n,Ho,TX⟩:=ak2 hv.KA (A:=r.2.2.2.2.2.2.2.2) h2 hf;unfold NV;rw[hr];simp only[al,h1,X7,aH,hm];refine ar.2 ⟨r,n,hr,h1,hm,Ho,λh=>?_⟩;have:=TX h;rw[hm]at this;exact jM this
def aln{v:jJ}(hv:I9 v)(g:Gd v.au q)(hn:q.aR.length<=4)(t0:0<=tm)(t1:tm<=20)(hR:BP v.au tm R){f:fa}(hf:Ji f):Wp (NW v ⟨tm,q,R,[]⟩ [] f) λl=>l.length<=6∧∀x∈l,Fl v ⟨tm,q,R,[]⟩ f x:=by
 have hP:=hv.C8;have hq:=ajk g.1.2;unfold NW VO;rw[akT (show q.aR.length<=12 by omega) hq.2 hq.1];simp only[al];refine Wp.bind (Q:=λr:List Part=>r.length<=12) ?_ λN hN=>?_
 ·refine(Y5 (VW hv.Ii) (Zq v hv g.1.2 hn) (show q.aR.length<=1000 by omega) λx hx=>bz.2 (.inl hx)).bind λr hr=>ar.2 hr.1
 have hl:v.dw.fh.length=6:=by rw[hP];rfl
 refine dS v.dw.fh.length (λk s=>∃l,s=((k:Int),l)∧l.length<=k∧∀x∈l,Fl v ⟨tm,q,R,[]⟩ f x) ⟨[],rfl,bw _,λx hx=>by cases hx⟩ ?_ ?_
 ·rintro k s hk ⟨l,rfl,h1,h2⟩;unfold VM;simp only[ba hk,aH,aO hk,al,M0 (show N.length<=1000000 by omega)];refine Wp.ite (λ_=>?_) λ_=>ar.2 ⟨l,by rw[a_ (by omega)],by omega,h2⟩;refine(ald hv g hn t0 t1 hR hf (x:=gt v.dw.fh k) (by rw[hP]at hk⊢;exact du hk)).bind λm hm=>?_;refine ar.2 ⟨l++[⟨gt v.dw.fh k,m⟩],by rw[a_ (by omega)]<;>rfl,by simp;omega,λx hx=>?_⟩;rcases bz.1 hx with hx|hx
  ·exact h2 x hx
  ·rw[dZ.1 hx];exact hm
 ·rintro s ⟨l,rfl,h1,h2⟩;unfold VM;simp only[bI,aD,aC];exact ar.2 ⟨by omega,h2⟩
def alv{v:jJ}(hv:I9 v)(g:Gd v.au q)(hn:q.aR.length<=4)(t0:0<=tm)(t1:tm<=20)(hR:BP v.au tm R){f:fa}(hf:Ji f):Wp (Io v ⟨tm,q,R,[]⟩ [] f) λr=>r.1=0∧r.2.length<=6∧∀x∈r.2,Fl v ⟨tm,q,R,[]⟩ f x:=by
 have e:Io v ⟨tm,q,R,[]⟩ [] f=uD (yQ v ⟨tm,q,R,[]⟩ [] []) λx1=>if(x1.2.1 !=0)=ab then aa (x1.2.1,[])else uD (Kx v ⟨tm,q,R,[]⟩ [] f) λx3=>aa (0,x3):=by unfold Io VN;rfl
 rw[e];refine(Y8 (l:=[]) hv g hn t0 t1 hR (by simp) (λy hy=>by cases hy)).bind λr hr=>?_;rw[hr.1];simp only[me,aD,aC];refine Wp.bind (Q:=λr:List jv=>r.length<=6∧∀x∈r,Fl v ⟨tm,q,R,[]⟩ f x) ?_ λr hr=>ar.2 ⟨rfl,hr⟩;unfold Kx Ri;refine Wp.bind (Q:=λr:List jv=>r.length<=6∧∀x∈r,Fl v ⟨tm,q,R,[]⟩ f x) ?_ λr hr=>ar.2 hr;refine(aln hv g hn t0 t1 hR hf).bind λl hl=>?_;refine Wp.bind (Q:=λr:List jv=>r=l) ?_ λr hr=>by rw[hr];exact ar.2 hl
 refine tD (λs=>s.2.length) (λs=>s.1++s.2=l) (λs hs=>?_) (oS l) (by have:=hl.1;simp only;omega);obtain⟨s1,s2⟩:=s;simp only at hs;unfold Z4;cases s2 with
 |nil=>exact ar.2 (by simpa using hs)
 |cons x s2=>
  have hlen:(s1++x::s2).length=l.length:=by rw[hs]
  simp only[cU,jO]at hlen;have h6:=hl.1;try simp only
  rw[cJ (by simp;omega)];exact ar.2 ⟨by simpa using hs,by simp⟩
