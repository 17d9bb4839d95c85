import Derived.Test.YtgaghlbepnjhiaaGreatMd
set_option linter.all false
open Bool renaming and_eq_true->bt,false->ae,false_eq_true->aC,not_true->dP,true->ab
open Classical renaming byContradiction->gD
open Int renaming eq_ofNat_of_zero_le->nF
open List renaming append_nil->pb,find?_eq_none->sh,find?_some->zE,flatten_append->oh,flatten_cons->nE,getElem_of_mem->F5,length_append->cW,length_cons->jd,length_map->pZ,length_pos_iff->xK,length_singleton->xJ,length_take->o9,map_append->mS,map_cons->gC,mem_append->bg,mem_cons->cj,mem_cons_of_mem->eR,mem_cons_self->kI,mem_map->dk,mem_of_find?_eq_some->uJ,mem_of_mem_take->uI,mem_singleton->cY,nil_append->o7,not_mem_nil->jT,pairwise_cons->pY,pairwise_iff_getElem->Ck,replicate->cR
open Nat renaming add_sub_cancel->F2,le_refl->bw,le_trans->lR,zero_le->jS
open Option renaming bind->pW,bind_some->al,some->aa
open Sum renaming elim_inl->bx,elim_inr->bE
namespace Go.Proofs.YtgaghlbepnjhiaaGreat
open Go Go.RowKit Dp
namespace Rx
section
variable {α:Type} (key:α->Int)
def mn(l:List α):Prop:=l.Pairwise (λa b=>key a<key b)
variable {key}
def mn.inj{l:List α}(h:mn key l):∀{x y:α},x∈l->y∈l->key x=key y->x=y:=by
 induction l with
 |nil=>intro x y hx;cases hx
 |cons a l ih=>
  intro x y hx hy he;have h':=pY.1 h;rcases cj.1 hx with hx|hx<;>rcases cj.1 hy with hy|hy
  ·rw[hx,hy]
  ·exact absurd (h'.1 _ hy) (by rw[<-hx];omega)
  ·exact absurd (h'.1 _ hx) (by rw[<-hy];omega)
  ·exact ih h'.2 hx hy he
def akD:∀{l m:List α},mn key l->mn key m->(∀x,x∈l↔x∈m)->l=m:=by
 intro l;induction l with
 |nil=>
  intro m _ _ he;cases m with
  |nil=>rfl
  |cons b m=>exact(jT ((he b).2 kI)).elim
 |cons a l ih=>
  intro m hl hm he;cases m with
  |nil=>exact(jT ((he a).1 kI)).elim
  |cons b m=>
   have pL:=pY.1 hl;have nR:=pY.1 hm;have hab:a=b:=by
    rcases cj.1 ((he a).1 kI)with h|h
    ·exact h
    ·rcases cj.1 ((he b).2 kI)with h2|h2
     ·exact h2.symm
     ·have h3:=nR.1 _ h;have h4:=pL.1 _ h2;omega
   subst hab;congr 1;refine ih pL.2 nR.2 λx=>⟨λhx=>?_,λhx=>?_⟩
   ·rcases cj.1 ((he x).1 (eR _ hx))with h|h
    ·subst h;have:=pL.1 _ hx;omega
    ·exact h
   ·rcases cj.1 ((he x).2 (eR _ hx))with h|h
    ·subst h;have:=nR.1 _ hx;omega
    ·exact h
def mn.filter{l:List α}(h:mn key l)(p:α->Bool):mn key (l.filter p):=List.Pairwise.filter p h
def mn.sub{l m:List α}(h:mn key l)(hs:List.Sublist m l):mn key m:=List.Pairwise.sublist hs h
def mn.nodup{l:List α}(h:mn key l):l.Nodup:=h.imp λ{a b} hab he=>by subst he;omega
def Ax{l m:List α}(hl:l.Nodup):(∀x∈l,x∈m)->l.length<=m.length:=by
 induction l generalizing m with
 |nil=>intro _;simp
 |cons a l ih=>
  intro h;have h':=List.nodup_cons.1 hl;obtain⟨s,t,rfl⟩:=List.append_of_mem (h a kI);have:=ih (m:=s++t) h'.2 λx hx=>by
   have hxa:x≠a:=λhe=>h'.1 (he▸hx);have:=h x (eR _ hx);simp only[bg,cj]at this⊢;rcases this with h|h|h
   ·exact .inl h
   ·exact(hxa h).elim
   ·exact .inr h
  simp only[cW,jd]at this⊢;omega
variable (key)
def l7(x:α):List α->List α
 |[]=>[x]
 |y::r=>if key x<key y then y::l7 x r else x::y::r
def tJ:List α->List α->List α
 |acc,[]=>acc
 |acc,x::r=>tJ (l7 key x acc) r
def mz(l:List α):List α:=(tJ key [] l).reverse
def Wx:Int->List α->List α
 |_,[]=>[]
 |k,y::r=>if key y=k then Wx k r else y::Wx (key y) r
def dd:List α->List α
 |[]=>[]
 |x::r=>x::Wx key (key x) r
variable {key}
def T4(x:α)(r:List α):(l7 key x r).length=r.length+1:=by
 induction r with
 |nil=>rfl
 |cons y r ih=>unfold l7;split<;>simp[ih]
def T3{x z:α}{r:List α}:z∈l7 key x r↔z=x∨z∈r:=by
 induction r with
 |nil=>simp[l7]
 |cons y r ih=>
  unfold l7;split
  ·simp only[cj,ih];constructor
   ·rintro(h|h|h)
    ·exact .inr (.inl h)
    ·exact .inl h
    ·exact .inr (.inr h)
   ·rintro(h|h|h)
    ·exact .inr (.inl h)
    ·exact .inl h
    ·exact .inr (.inr h)
  ·simp[cj]
def atr{x:α}{r:List α}(h:r.Pairwise (λa b=>key b<=key a)):(l7 key x r).Pairwise (λa b=>key b<=key a):=by
 induction r with
 |nil=>simp[l7]
 |cons y r ih=>
  have h':=pY.1 h;unfold l7;split
  ·rename_i aS;refine pY.2 ⟨λz hz=>?_,ih h'.2⟩;rcases T3.1 hz with rfl|hz
   ·omega
   ·exact h'.1 _ hz
  ·rename_i aS;refine pY.2 ⟨λz hz=>?_,h⟩;rcases cj.1 hz with rfl|hz
   ·omega
   ·have:=h'.1 _ hz;omega
def ao9(l acc:List α):(tJ key acc l).length=acc.length+l.length:=by
 induction l generalizing acc with
 |nil=>rfl
 |cons x l ih=>unfold tJ;rw[ih,T4];simp only[jd];omega
def ao8{z:α}{l acc:List α}:z∈tJ key acc l↔z∈acc∨z∈l:=by
 induction l generalizing acc with
 |nil=>simp[tJ]
 |cons x l ih=>
  unfold tJ;rw[ih,T3,cj];constructor
  ·rintro((h|h)|h)
   ·exact .inr (.inl h)
   ·exact .inl h
   ·exact .inr (.inr h)
  ·rintro(h|h|h)
   ·exact .inl (.inr h)
   ·exact .inl (.inl h)
   ·exact .inr h
def ao6{l acc:List α}(h:acc.Pairwise (λa b=>key b<=key a)):(tJ key acc l).Pairwise (λa b=>key b<=key a):=by
 induction l generalizing acc with
 |nil=>exact h
 |cons x l ih=>exact ih (atr h)
def ao3(l:List α):(mz key l).length=l.length:=by unfold mz;rw[List.length_reverse,ao9];simp
def Gw{z:α}{l:List α}:z∈mz key l↔z∈l:=by unfold mz;rw[List.mem_reverse,ao8];simp
def aoZ(l:List α):(mz key l).Pairwise (λa b=>key a<=key b):=by unfold mz;rw[List.pairwise_reverse];exact ao6 List.Pairwise.nil
structure FW(key:α->Int)(xs out:List α):Prop where
 asc:mn key out
 head:∀y∈out,(xs.filter (λz=>decide (key z=key y))).head? =aa y
 all:∀x∈xs,∃y∈out,key y=key x
def FW.sub{xs out:List α}(h:FW key xs out):∀y∈out,y∈xs:=λy hy=>by have:=List.mem_of_mem_head? (h.head y hy);exact(List.mem_filter.1 this).1
def FW.len{xs out:List α}(h:FW key xs out):out.length<=xs.length:=Ax h.asc.nodup h.sub
def FW.mem{xs out:List α}(h:FW key xs out)(hi:∀x∈xs,∀y∈xs,key x=key y->x=y)(x:α):x∈out↔x∈xs:=by refine⟨h.sub x,λhx=>?_⟩;obtain⟨y,hy,he⟩:=h.all x hx;rw[<-hi y (h.sub y hy) x hx he];exact hy
def atp{step:Int×List α->Option ((Int×List α)⊕List α)}{G:α->Prop}
  (s0:∀d,step (0,d)=aa (.inr d))
  (s1:∀(a:List α) (y x:α) (b:List α),a.length+b.length<=1000->G y->G x->step (((a.length+1:Nat):Int),a++y::x::b)=if key x<key y then aa (.inl ((a.length:Int),a++x::y::b))else aa (.inr (a++y::x::b))):
  ∀(r:List α) (x:α) (b:List α),r.length+b.length<=1000->(∀z∈r,G z)->G x->∃k,k<=r.length∧mh step k ((r.length:Int),r.reverse++x::b) ((l7 key x r).reverse++b):=by
 intro r
 induction r with
 |nil=>intro x b _ _ _;exact⟨0,bw _,.done (s0 _)⟩
 |cons y r ih=>
  intro x b hl hr hx
  have hs:=s1 r.reverse y x b (by simp at hl⊢;omega) (hr y kI) hx
  rw[List.length_reverse]at hs
  have e1:(y::r).reverse++x::b=r.reverse++y::x::b:=by simp
  rw[e1]
  by_cases aS:key x<key y
  ·obtain⟨k,hk,fD⟩:=ih x (y::b) (by simp at hl⊢;omega) (λz hz=>hr z (eR _ hz)) hx;rw[aI aS]at hs;refine⟨k+1,by simp;omega,?_⟩;have e2:(l7 key x (y::r)).reverse++b=(l7 key x r).reverse++y::b:=by rw[l7,aI aS];simp
   rw[e2];exact .more hs fD
  ·rw[aK aS]at hs;refine⟨0,jS _,?_⟩;have e2:(l7 key x (y::r)).reverse++b=r.reverse++y::x::b:=by rw[l7,aK aS];simp
   rw[e2];exact .done hs
def ao1{step:Int×List α->Option ((Int×List α)⊕List α)}{G:α->Prop}{n:Nat}(hn:n<=1000)
  (s1:∀(r:List α) (x:α) (b:List α),r.length+1+b.length=n->(∀z∈r,G z)->G x->step ((r.length:Int),r.reverse++x::b)=aa (.inl (((r.length+1:Nat):Int),(l7 key x r).reverse++b)))
  (s2:∀d,step ((n:Int),d)=aa (.inr d)):
  ∀(b r:List α),r.length+b.length=n->(∀z∈r,G z)->(∀z∈b,G z)->mh step b.length ((r.length:Int),r.reverse++b) (tJ key r b).reverse:=by
 intro b
 induction b with
 |nil=>
  intro r hl _ _
  have:r.length=n:=by simpa using hl
  rw[this,pb]
  exact .done (s2 _)
 |cons x b ih=>
  intro r hl hr hb
  have h:=s1 r x b (by simp at hl;omega) hr (hb x kI)
  have:=ih (l7 key x r) (by rw[T4];simp at hl;omega) (λz hz=>(T3.1 hz).elim (λe=>e▸hb _ kI) (hr z)) (λz hz=>hb z (eR _ hz))
  rw[T4]at this
  exact .more h this
end
end Rx
namespace Rx
open Classical
def IH(a b:Part):Bool:=a.Kind==b.Kind&&a.Number==b.Number
def y6{a b:Part}:IH a b=ab↔a=b:=by unfold IH;cases a;cases b;simp
def N8{a b:Part}(h:a≠b):IH a b=ae:=by
 cases e:IH a b with
 |true=>exact(h (y6.1 e)).elim
 |false=>rfl
structure VP(p:Part):Prop where
 k0:1<=p.Kind
 k1:p.Kind<=9
 n0:0<=p.Number
 n1:p.Number<=63
def pk(p:Part):Int:=p.Kind*64+p.Number
def VP.bd{p:Part}(h:VP p):64<=pk p∧pk p<1024:=by obtain⟨h1,h2,h3,h4⟩:=h;unfold pk;omega
def arc{p q:Part}(hp:VP p)(hq:VP q)(h:pk p=pk q):p=q:=by obtain⟨h1,h2,h3,h4⟩:=hp;obtain⟨g1,g2,g3,g4⟩:=hq;unfold pk at h;exact S5 (by omega) (by omega)
def E1(a b:Int):Int:=if a<b then-1 else if a>b then 1 else 0
def azn(a b:Int):vZ a b=aa (E1 a b):=by
 unfold vZ I4 E1;simp only[al,kG,aC,aB];by_cases h:a<b
 ·simp[h]
 ·by_cases h2:a>b
  ·simp[h,h2]
  ·simp[h,h2]
def af3(x y:Int):(x<y∧E1 x y= -1)∨(x=y∧E1 x y=0)∨(x>y∧E1 x y=1):=by
 unfold E1;by_cases h1:x<y
 ·exact .inl ⟨h1,aI h1⟩
 ·rw[aK h1];by_cases h2:x>y
  ·exact .inr (.inr ⟨h2,aI h2⟩)
  ·exact .inr (.inl ⟨by omega,aK h2⟩)
def Mo{a b:Part}(ha:VP a)(hb:VP b):∃c,BQ a b=aa c∧(c<0↔pk a<pk b)∧(c=0↔pk a=pk b)∧(-1<=c∧c<=1):=by
 unfold BQ;simp only[azn,Mq,al];refine⟨_,rfl,?_⟩;obtain⟨h1,h2,h3,h4⟩:=ha;obtain⟨g1,g2,g3,g4⟩:=hb;unfold pk;rcases af3 a.Kind b.Kind with⟨c1,c2⟩|⟨c1,c2⟩|⟨c1,c2⟩<;>rw[c2]
 ·rw[aI (by omega)];omega
 ·rw[aK (by omega)];rcases af3 a.Number b.Number with⟨d1,d2⟩|⟨d1,d2⟩|⟨d1,d2⟩<;>rw[d2]<;>omega
 ·rw[aI (by omega)];omega
def at0{α:Type}(a:List α)(y:α)(b:List α):idx (a++y::b) ((a.length:Nat):Int)=aa y:=by rw[M9];simp
def v7{α:Type}(a:List α)(y x:α)(b:List α):idx (a++y::x::b) ((a.length+1:Nat):Int)=aa x:=by rw[M9,List.getElem?_append_right (by omega),show a.length+1-a.length=1 by omega];rfl
def apN{α:Type}(a:List α)(y z:α)(b:List α):(a++y::b).set a.length z=a++z::b:=by
 induction a with
 |nil=>rfl
 |cons c a ih=>simp[ih]
def apM{α:Type}(a:List α)(y x z:α)(b:List α):(a++y::x::b).set (a.length+1) z=a++y::z::b:=by
 induction a with
 |nil=>rfl
 |cons c a ih=>simp[ih]
def apf(d:List Part):GF 0 (0,d)=aa (.inr d):=by unfold GF;simp only[dF (c:=(0:Int)>0) (by omega),aC,aB,al]
def ape(a:List Part)(y x:Part)(b:List Part)(hl:a.length+b.length<=1000)(hy:VP y)(hx:VP x):GF 0 (((a.length+1:Nat):Int),a++y::x::b)=if pk x<pk y then aa (.inl ((a.length:Int),a++x::y::b))else aa (.inr (a++y::x::b)):=by
 unfold GF;have hW:W (((a.length+1:Nat):Int)-1)=(a.length:Int):=nv (k:=a.length+1) (by omega) (by omega);obtain⟨c,hc,c1,_⟩:=Mo hx hy;simp only[dT (c:=((a.length+1:Nat):Int)>0) (by omega),aH,hW,v7,at0,hc,al];by_cases aS:pk x<pk y
 ·simp only[dT (c1.2 aS),aH,aI aS];rw[jK (show a.length+1<(a++y::x::b).length by simp),apM];simp only[al,at0];rw[jK (show a.length<(a++y::y::b).length by simp),apN];rfl
 ·simp only[dF (λh=>aS (c1.1 h)),aC,aB,aK aS]
def atu{l:List Part}(hn:l.length<20)(hl:∀x∈l,VP x):KH l 0 (len l)=aa (mz pk l):=by
 unfold KH;have e3:W (0+1)=((1:Nat):Int):=bX (by omega) (by omega);rw[e3];cases l with
 |nil=>
  have:aG (C8 0 (len ([]:List Part))) (((1:Nat):Int),[])=aa []:=dR (λ_=>(((1:Nat):Int),[])) 0 (λk hk=>by omega) (by unfold C8;simp[len])
  rw[this];rfl
 |cons x b=>
  have h:=ao1 (step:=C8 0 (len (x::b))) (G:=VP) (key:=pk) (n:=(x::b).length) (by omega) (λr z b' hl hr hz=>by
   unfold C8;simp only[dT (c:=(r.length:Int)<len (x::b)) (by unfold len;omega),aH];obtain⟨k,hk,fD⟩:=atp (key:=pk) (G:=VP) apf ape r z b' (by omega) hr hz;rw[oD fD (by omega)];simp only[al];rw[aY (by omega)]) (λd=>by
   unfold C8;simp only[dF (c:=(((x::b).length:Nat):Int)<len (x::b)) (by unfold len;omega),aC,aB]) b [x] (by simp;omega) (λz hz=>hl z (by simp at hz;simp[hz])) (λz hz=>hl z (eR _ hz))
  have h':=oD h (by simp at hn;omega);simp only[jd,List.length_nil,List.reverse_cons,List.reverse_nil,o7,List.singleton_append,Nat.zero_add]at h';have e:len (x::b)=((b.length+1:Nat):Int):=by simp[len]
  rw[h'];rfl
def Bu{l:List Part}(hl:l.length<=1000000)(p:Part):s_ l p=aa (dB (p∈l)):=by
 have h:Wp (aG (wH l p) 0) λr=>(p∈l∧∃k:Nat,r= .inr (k:Int))∨(p∉l∧r= .inl ()):=by
  refine dy l.length (λk s=>s=(k:Int)∧∀i,i<k->gt l i≠p) ⟨rfl,λi hi=>by omega⟩ (λk s hk hv=>?_) (λs hv=>?_) (by omega)
  ·obtain⟨rfl,hv⟩:=hv;unfold wH;simp only[aZ hk,aH,aM hk,al];by_cases hq:p=gt l k
   ·rw[show(p.Kind==(gt l k).Kind&&p.Number==(gt l k).Number)=ab from y6.2 hq];simp only[aH];exact aq.2 (.inl ⟨by rw[hq];exact cX hk,k,rfl⟩)
   ·rw[show(p.Kind==(gt l k).Kind&&p.Number==(gt l k).Number)=ae from N8 hq];simp only[aC,aB];rw[aY (by omega)];refine aq.2 ⟨rfl,λi hi=>?_⟩;by_cases dV:i=k
    ·rw[dV];exactλhe=>hq he.symm
    ·exact hv i (by omega)
  ·obtain⟨rfl,hv⟩:=hv;unfold wH;simp only[bC,aC,aB];refine aq.2 (.inr ⟨λhp=>?_,rfl⟩);obtain⟨i,hi,he⟩:=lC hp;exact hv i hi he
 obtain⟨r,hr,h⟩:=h;unfold s_ GL KL;rw[hr];rcases h with⟨hp,k,rfl⟩|⟨hp,rfl⟩
 ·rw[fG hp];simp only[al,bE,dT (c:=(k:Int)>=0) (by omega)]
 ·rw[fH hp];rfl
def aDF{n:Nat}(h:n<=12):∃r,PN (rA IntKind.u64 (n:Int))=aa r:=by
 match n,h with
 |0,_=>exact⟨0,by kernel_rfl⟩
 |1,_=>exact⟨1,by kernel_rfl⟩
 |2,_=>exact⟨2,by kernel_rfl⟩
 |3,_=>exact⟨2,by kernel_rfl⟩
 |4,_=>exact⟨3,by kernel_rfl⟩
 |5,_=>exact⟨3,by kernel_rfl⟩
 |6,_=>exact⟨3,by kernel_rfl⟩
 |7,_=>exact⟨3,by kernel_rfl⟩
 |8,_=>exact⟨4,by kernel_rfl⟩
 |9,_=>exact⟨4,by kernel_rfl⟩
 |10,_=>exact⟨4,by kernel_rfl⟩
 |11,_=>exact⟨4,by kernel_rfl⟩
 |12,_=>exact⟨4,by kernel_rfl⟩
def aaO{l:List Part}(hn:l.length<=12)(hl:∀x∈l,VP x):GG l=aa (mz pk l):=by
 obtain⟨r,hr⟩:=aDF hn;have UB:PN (rA IntKind.u64 (len l))=aa r:=hr;have e:aG RN (0,len l,r,ab,ab,l)=aa (mz pk l):=dR (λ_=>(0,len l,r,ab,ab,l)) 0 (λk hk=>by omega) (by unfold RN;simp only[bX (x:=len l-0) (by unfold len;omega) (by unfold len;omega),dT (c:=len l-0<=12) (by unfold len;omega),aH,atu (show l.length<20 by omega) hl,al,bE])
 unfold GG RO;simp only[UB,e,al]
def att{α:Type}{key:α->Int}(x:α)(r:List α):(l7 key x r).Perm (x::r):=by
 induction r with
 |nil=>exact .refl _
 |cons y r ih=>
  unfold l7;split
  ·exact(ih.cons y).trans (.swap _ _ _)
  ·exact .refl _
def ao7{α:Type}{key:α->Int}:∀(l acc:List α),(tJ key acc l).Perm (l++acc):=by
 intro l;induction l with
 |nil=>intro acc;exact .refl _
 |cons x l ih=>intro acc;unfold tJ;refine(ih _).trans ?_;refine((att x acc).append_left l).trans ?_;exact List.perm_middle
def ao2{α:Type}{key:α->Int}(l:List α):(mz key l).Perm l:=by unfold mz;refine(List.reverse_perm _).trans ((ao7 l []).trans ?_);rw[pb]
def RD{l:List Part}(hd:l.Nodup)(hl:∀x∈l,VP x):mn pk (mz pk l):=by
 have h:=aoZ (key:=pk) l;have hn:(mz pk l).Nodup:=(ao2 l).nodup_iff.2 hd;have hm:∀x∈mz pk l,VP x:=λx hx=>hl x (Gw.1 hx);revert h hn hm;generalize mz pk l=m;induction m with
 |nil=>intro _ _ _;exact .nil
 |cons x m ih=>
  intro h hn hm;have h':=pY.1 h;have Ec:=List.nodup_cons.1 hn;refine pY.2 ⟨λy hy=>?_,ih h'.2 Ec.2 λz hz=>hm z (eR _ hz)⟩;have h1:=h'.1 y hy;rcases Int.lt_or_eq_of_le h1 with h2|h2
  ·exact h2
  ·have:=arc (hm x kI) (hm y (eR _ hy)) h2;subst this;exact(Ec.1 hy).elim
def ao0{l m:List Part}(h:m.Perm l)(hd:l.Nodup)(hl:∀x∈l,VP x):mz pk m=mz pk l:=akD (RD (h.nodup_iff.2 hd) λx hx=>hl x (h.mem_iff.1 hx)) (RD hd hl) λx=>by rw[Gw,Gw];exact h.mem_iff
def ao4{l:List Part}(h:mn pk l)(hl:∀x∈l,VP x):mz pk l=l:=akD (RD h.nodup hl) h λx=>Gw
def azg{l:List Part}(hn:l.length<=1000)(h:mn pk l):Lq l=aa l:=by
 unfold Lq;by_cases h2:l.length<2
 ·rw[dT (c:=len l<2) (by unfold len;omega),aI rfl]
 ·rw[dF (c:=len l<2) (by unfold len;omega)];have e:aG Lp (1,l)=aa (.inl l):=dR (λk=>(((k+1:Nat):Int),l)) (l.length-1) (λk hk=>by
   unfold Lp;have bM:((gt l (k+1)).Kind==(gt l k).Kind&&(gt l (k+1)).Number==(gt l k).Number)=ae:=N8 λhe=>by have:=Ck.1 h k (k+1) (by omega) (by omega) (by omega);rw[<-fQ (by omega),<-fQ (by omega),he]at this;omega
   simp only[aZ (show k+1<l.length by omega),aH,aM (show k+1<l.length by omega),nv (k:=k+1) (by omega) (by omega),F2,aM (show k<l.length by omega),al,bM,aC,aB];rw[aY (by omega)]) (by
   unfold Lp;rw[show l.length-1+1=l.length by omega];simp only[bC,aC,aB])
  simp only[aC,aB,e,al,bx]
def axg{n:Nat}(h:n<=100000):KR (n:Int)=aa []:=by
 have h0:W ((n:Int)-W (0-0))=(n:Int):=by rw[show W (0-0)=0 from bX (by omega) (by omega),Int.sub_zero];exact bX (by omega) (by omega)
 unfold KR;rw[dF (c:=(n:Int)<0) (by omega),h0];simp only[aC,aB];by_cases hp:(n:Int)>0
 ·rw[dT hp];simp only[aH];rw[show dH ([]:List Unit) 0 0=aa []from rfl];simp only[al];rw[show Az (Part.mk 0 0) (n:Int)=aa (cR (n:Int).toNat (Part.mk 0 0))from by unfold Az;rw[aI ⟨by omega,by omega⟩]];simp only[al];rw[show dH (cR (n:Int).toNat (Part.mk 0 0)) 0 0=aa []from by unfold dH;rw[aI ⟨by omega,by omega,by omega⟩];simp];rfl
 ·rw[dF hp];rfl
def af0{L:List (List Part)}(hl:L.length<=10)(hn:L.flatten.length<=1000):GM L=aa L.flatten:=by
 have hp:∀k,(L.take k).flatten.length<=1000:=λk=>by
  have e:L.flatten=(L.take k).flatten++(L.drop k).flatten:=by rw[<-oh,List.take_append_drop]
  rw[e,cW]at hn;omega
 have hs:∀k,k<L.length->(L.take (k+1)).flatten=(L.take k).flatten++gt L k:=λk hk=>by rw[lr hk,oh];simp
 have h0:(L.take L.length).flatten=L.flatten:=by rw[List.take_length]
 have hc:∀k,k<L.length->(L.take k).flatten.length+(gt L k).length<=1000:=λk hk=>by have:=hp (k+1);rw[hs k hk,cW]at this;exact this
 have e1:aG (Lo L) (0,0)=aa ((L.flatten.length:Nat):Int):=dR (λk=>((((L.take k).flatten.length:Nat):Int),(k:Int))) L.length (λk hk=>by
  have:=hc k hk;unfold Lo;simp only[aZ hk,aH,aM hk,al];rw[bX (by unfold len;omega) (by unfold len;omega),dF (show ¬(((L.take k).flatten.length:Nat):Int)+len (gt L k)<0 by unfold len;omega),aY (by omega),hs k hk,cW];simp[len]) (by
  unfold Lo;simp only[bC,aC,aB,h0])
 have e3:aG (Ln L) (0,[])=aa L.flatten:=dR (λk=>((k:Int),(L.take k).flatten)) L.length (λk hk=>by
  unfold Ln;simp only[aZ hk,aH,aM hk,al];rw[cJ (by have:=hc k hk;omega),aY (by omega),hs k hk];rfl) (by
  unfold Ln;simp only[bC,aC,aB,h0])
 unfold GM;simp only[e1,axg (show L.flatten.length<=100000 by omega),e3,al]
end Rx
namespace Rx
open Classical
def kp(x:Int×Int×Bool):Part:=⟨x.1,x.2.1⟩
def Cc(m:List (Int×Int×Bool)):Prop:=(m.map kp).Nodup∧∀x∈m,x.2.2=ab
def asa{m:List (Int×Int×Bool)}(h:Cc m)(p:Part):ry (λbF=>bF.1==p.Kind&&bF.2.1==p.Number) (λbY=>bY.2.2) ae m=dB (p∈m.map kp):=by
 unfold ry;cases hf:m.find? (λbF=>bF.1==p.Kind&&bF.2.1==p.Number)with
 |none=>rw[fH];intro hm;obtain⟨x,hx,rfl⟩:=dk.1 hm;have:=sh.1 hf x hx;simp[kp]at this
 |some x=>
  have h1:=uJ hf;have h2:=zE hf;rw[fG]
  ·exact h.2 x h1
  ·refine dk.2 ⟨x,h1,?_⟩;simp only[bt,sf]at h2;unfold kp;rw[h2.1,h2.2]
def ar6{m:List (Int×Int×Bool)}(h:Cc m){p:Part}(hp:p∉m.map kp):tP (λbi=>bi.1==p.Kind&&bi.2.1==p.Number) (p.Kind,p.Number,ab) m=m++[(p.Kind,p.Number,ab)]:=by unfold tP;rw[aK];intro hm;obtain⟨x,hx,h2⟩:=List.any_eq_true.1 hm;simp only[bt,sf]at h2;exact hp (dk.2 ⟨x,hx,by unfold kp;rw[h2.1,h2.2]⟩)
def Cc.snoc{m:List (Int×Int×Bool)}(h:Cc m){p:Part}(hp:p∉m.map kp):Cc (m++[(p.Kind,p.Number,ab)]):=by
 refine⟨?_,λx hx=>?_⟩
 ·rw[mS,gC,List.map_nil];refine List.nodup_append.2 ⟨h.1,by simp,λa ha b hb=>?_⟩;rw[cY.1 hb];intro e;exact hp (by rw[e]at ha;exact ha)
 ·rcases bg.1 hx with hx|hx
  ·exact h.2 x hx
  ·rw[cY.1 hx]
def axv:∀(ys:List (Int×Int×Bool)) (s:List Part),s.length+ys.length<=1000->sV (λdx cZ=>pW (bD dx [Part.mk cZ.1 cZ.2.1]) λdQ=>aa dQ) s ys=aa (s++ys.map kp):=by
 intro ys;induction ys with
 |nil=>intro s _;unfold sV;rw[List.map_nil,pb]
 |cons y ys ih=>intro s h;unfold sV;simp only[jd]at h;rw[cJ (by simp;omega)];simp only[al,nL];rw[ih _ (by simp;omega),gC,List.append_assoc];rfl
structure Fz(U:List Part)(d:b_):Prop where
 n:U.length<=12
 vp:∀x∈U,VP x
 to:∀x∈d.cw,x.To∈U
 ln:d.cw.length<=60
def ayv{d:b_}{U:List Part}(hU:Fz U d){G:Part->Prop}(hG:∀k∈d.cw,G k.cu->G k.To){p:Part}(hp:G p){l:List Part}(hl:l.length<=100000)(hm:∀x∈l,x∈U∧G x):Wp (aG (ON d p) (0,l)) λr=>(∀x∈r,x∈U∧G x)∧r.length<=l.length+60:=by
 have hn:=hU.ln;refine dy d.cw.length (λk s=>∃r,s=((k:Int),r)∧(∀x∈r,x∈U∧G x)∧r.length<=l.length+k) ⟨l,rfl,hm,bw _⟩ ?_ ?_
 ·rintro k s hk ⟨r,rfl,h1,h2⟩;unfold ON;simp only[aZ hk,aH,aM hk,al];refine Wp.bind (Q:=λr=>(∀x∈r,x∈U∧G x)∧r.length<=l.length+(k+1)) ?_ λr hr=>aq.2 ⟨r,by rw[aY (by omega)],hr⟩;refine Wp.ite (λhc=>?_) λ_=>aq.2 ⟨h1,by omega⟩;have hc:(gt d.cw k).cu=p:=y6.1 hc;rw[cJ (by simp;omega)];refine aq.2 ⟨λx hx=>?_,by simp;omega⟩;rcases bg.1 hx with hx|hx
  ·exact h1 x hx
  ·rw[cY.1 hx];exact⟨hU.to _ (cX hk),hG _ (cX hk) (by rw[hc];exact hp)⟩
 ·rintro s ⟨r,rfl,h1,h2⟩;unfold ON;simp only[bC,aC,aB];exact aq.2 ⟨h1,by omega⟩
def ayw{d:b_}{U:List Part}(hU:Fz U d){G:Part->Prop}(hG:∀k∈d.cw,G k.cu->G k.To){l:List Part}(hl:l.length<=1000)(hm:∀x∈l,x∈U∧G x):Wp (aG (Wt d) (l,[])) λm=>Cc m∧∀x∈m.map kp,x∈U∧G x:=by
 have hn:=hU.n;refine pn (λs=>(12-s.2.length)*61+s.1.length) (λs=>(Cc s.2∧∀x∈s.2.map kp,x∈U∧G x)∧(∀x∈s.1,x∈U∧G x)∧(12-s.2.length)*61+s.1.length<=2000) (λs hs=>?_) ⟨⟨⟨by simp,λx hx=>by cases hx⟩,λx hx=>by cases hx⟩,hm,by simp;omega⟩ (by simp;omega);obtain⟨nx,m⟩:=s;obtain⟨⟨h1,h2⟩,h3,h4⟩:=hs;simp only at h1 h2 h3 h4;have xd:m.length<=U.length:=by have:=Ax h1.1 λx hx=>(h2 x hx).1;rwa[pZ]at this
 unfold Wt;by_cases h0:0<nx.length
 ·obtain⟨p,nx,rfl⟩:=List.exists_cons_of_ne_nil (xK.1 h0);simp only[jd]at h4;rw[dT (show len (p::nx)>0 by unfold len;simp only[jd];omega),aI rfl,show idx (p::nx) 0=aa p from rfl,show dH (p::nx) 1 (len (p::nx))=aa nx from Lt (n:=1) (by simp)];simp only[al];rw[asa h1];by_cases hp:p∈m.map kp
  ·rw[fG hp,aI rfl];exact aq.2 ⟨⟨⟨h1,h2⟩,λx hx=>h3 x (eR _ hx),by simp only;omega⟩,by simp only[jd];omega⟩
  ·rw[fH hp,aK (by decide),ar6 h1 hp];have Us:=h1.snoc hp;have BA:∀x∈(m++[(p.Kind,p.Number,ab)]).map kp,x∈U∧G x:=λx hx=>by
    rw[mS]at hx;rcases bg.1 hx with hx|hx
    ·exact h2 x hx
    ·rw[cY.1 hx];exact h3 p kI
   have au5:(m++[(p.Kind,p.Number,ab)]).length<=U.length:=by have:=Ax Us.1 λx hx=>(BA x hx).1;rwa[pZ]at this
   simp only[cW,xJ]at au5;refine Wp.bind (Q:=λr:List Part×List (Int×Int×Bool)=>r.2=m++[(p.Kind,p.Number,ab)]∧(∀x∈r.1,x∈U∧G x)∧r.1.length<=nx.length+60) ?_ λr hr=>?_
   ·exact(ayv hU hG (h3 p kI).2 (show nx.length<=100000 by omega) λx hx=>h3 x (eR _ hx)).bind λr hr=>aq.2 ⟨rfl,hr⟩
   ·obtain⟨r1,r2⟩:=r;obtain⟨e,e1,e2⟩:=hr;simp only at e e1 e2;subst e;refine aq.2 ⟨⟨⟨Us,BA⟩,e1,?_⟩,?_⟩
    ·simp only[cW,xJ];omega
    ·simp only[cW,xJ,jd];omega
 ·rw[dF (show ¬len nx>0 by unfold len;omega),aK (by decide)];exact aq.2 ⟨h1,h2⟩
def aDS{α ρ:Type}{xs:List α}{f:List α->Option ρ}{Q:ρ->Prop}{r:ρ}(h:∀zs,zs.Perm xs->f zs=aa r)(hq:Q r):Wp (B_ xs f) Q:=by rw[aDT h];exact aq.2 hq
def Z3{d:b_}{U:List Part}(hc:vW d=aa 0)(hU:Fz U d){G:Part->Prop}(hG:∀k∈d.cw,G k.cu->G k.To){l:List Part}(hl:l.length<=1000)(hm:∀x∈l,x∈U∧G x):Wp (za d l) λr=>r.length<=12∧∀x∈r,x∈U∧G x:=by
 unfold za;simp only[hc,al,kG,aC,aB];unfold zY;rw[cJ (by simp;omega)];simp only[al,o7];refine(ayw hU hG hl hm).bind λm hm=>?_;obtain⟨h1,h2⟩:=hm;have xd:m.length<=U.length:=by have:=Ax h1.1 λx hx=>(h2 x hx).1;rwa[pZ]at this
 have hn:=hU.n;have hvp:∀x∈m.map kp,VP x:=λx hx=>hU.vp x (h2 x hx).1;refine aDS (r:=mz pk (m.map kp)) (λzs hz=>?_) ⟨by rw[ao3,pZ];omega,λx hx=>h2 x (Gw.1 hx)⟩;have ie:=hz.length_eq;have hzp:=hz.map kp;rw[axv zs [] (by simp;omega)];simp only[al,o7];rw[aaO (by rw[pZ];omega) λx hx=>hvp x (hzp.mem_iff.1 hx),ao0 hzp h1.1 hvp];rfl
def Rf{d:b_}{U:List Part}(hc:vW d=aa 0)(hU:Fz U d){l:List Part}(hl:l.length<=1000)(hm:∀x∈l,x∈U):Wp (za d l) λr=>r.length<=12∧∀x∈r,x∈U:=(Z3 hc hU (G:=λ_=>True) (λ_ _ _=>trivial) hl λx hx=>⟨hm x hx,trivial⟩).mono λr hr=>⟨hr.1,λx hx=>(hr.2 x hx).1⟩
def al4{l:List Part}(hl:l.length<=12)(hv:∀x∈l,VP x)(ha:mn pk l):IU [] l=aa l:=by unfold IU;rw[af0 (by simp) (by simp;omega)];simp only[al,nE,List.flatten_nil,o7,pb];rw[aaO hl hv,ao4 ha hv];simp only[al];rw[azg (by omega) ha];rfl
end Rx
namespace Rx
open Classical
def kD(P:List Part):Prop:=mn pk P∧∀x∈P,VP x
def kD.lt{P:List Part}(h:kD P){i j:Nat}(iC:i<j)(hj:j<P.length):pk (gt P i)<pk (gt P j):=by rw[fQ (by omega),fQ hj];exact Ck.1 h.1 i j (by omega) hj iC
def asN(a b:Part):Oc a b=aa (decide (a.Kind<b.Kind∨(a.Kind=b.Kind∧a.Number<b.Number))):=by
 unfold Oc;by_cases h1:a.Kind<b.Kind
 ·rw[dT h1,aI rfl,dT (.inl h1)];rfl
 ·rw[dF h1,aK (by decide)];by_cases h2:a.Kind=b.Kind
  ·rw[gu h2,aI rfl];by_cases h3:a.Number<b.Number
   ·rw[dT h3,dT (.inr ⟨h2,h3⟩)];rfl
   ·rw[dF h3,dF (by omega)];rfl
  ·rw[dL h2,aK (by decide),dF (by omega)];rfl
def al2{g:List Part}(hg:g.length<=1000)(x:Part):Wp (Ob g x) λr=>(r≠[]∧r.length<=g.length+1)∧(∀y∈r,y=x∨y∈g)∧(kD g->VP x->kD r):=by
 unfold Ob;refine Wp.bind (Q:=λr=>∃i:Nat,r=(i:Int)∧i<=g.length∧(∀j,j<i->((gt g j).Kind<x.Kind∨((gt g j).Kind=x.Kind∧(gt g j).Number<x.Number)))∧(i<g.length->¬((gt g i).Kind<x.Kind∨((gt g i).Kind=x.Kind∧(gt g i).Number<x.Number)))) ?_ λr hr=>?_
 ·refine pn (λs=>g.length-s.toNat) (λs=>∃i:Nat,s=(i:Int)∧i<=g.length∧∀j,j<i->((gt g j).Kind<x.Kind∨((gt g j).Kind=x.Kind∧(gt g j).Number<x.Number))) (λs hs=>?_) ⟨0,rfl,jS _,λj hj=>by omega⟩ (by omega);obtain⟨i,rfl,h1,h2⟩:=hs;unfold afF;by_cases hi:i<g.length
  ·simp only[aZ hi,aH,aM hi,asN,al];refine Wp.ite (λhh=>aq.2 ?_) λhh=>aq.2 ⟨i,rfl,h1,h2,λ_=>mR hh⟩;rw[aY (by omega)];refine⟨⟨i+1,rfl,hi,λj hj=>?_⟩,by omega⟩;by_cases eV:j=i
   ·rw[eV];exact jJ hh
   ·exact h2 j (by omega)
  ·rw[dF (show ¬(i:Int)<len g by unfold len;omega),aK (by decide)];simp only[al,aC,aB];exact aq.2 ⟨i,rfl,h1,h2,λh=>(hi h).elim⟩
 obtain⟨i,rfl,h1,h2,h3⟩:=hr;have fin:(¬i<g.length∨(i<g.length∧gt g i≠x))->Wp (pW (dH g 0 (i:Int)) λx8=>pW (dH g (i:Int) (len g)) λx9=>pW (bD [x] (uz g (i:Int))) λbb=>pW (bD (C2 g (i:Int)) bb) λbi=>aa bi) λr=>(r≠[]∧r.length<=g.length+1)∧(∀y∈r,y=x∨y∈g)∧(kD g->VP x->kD r):=λhc=>by
  rw[Dh h1,Lt h1];simp only[al];rw[show uz g (i:Int)=g.drop i from by unfold uz;simp,show C2 g (i:Int)=g.take i from by unfold C2;simp];rw[cJ (by simp;omega)];simp only[al];rw[cJ (by simp;omega)];refine aq.2 ⟨⟨by simp,by simp;omega⟩,λy hy=>?_,λhp hv=>⟨?_,λy hy=>?_⟩⟩
  ·rcases bg.1 hy with hy|hy
   ·exact .inr (uI hy)
   ·rcases bg.1 hy with hy|hy
    ·exact .inl (cY.1 hy)
    ·exact .inr (List.mem_of_mem_drop hy)
  ·have lo:∀j,j<i->pk (gt g j)<pk x:=λj hj=>by
    have h:=h2 j hj;have v:=hp.2 _ (cX (show j<g.length by omega));obtain⟨v1,v2,v3,v4⟩:=v;obtain⟨w1,w2,w3,w4⟩:=hv;unfold pk;omega
   have hi:∀j,i<=j->j<g.length->pk x<pk (gt g j):=λj hj dt=>by
    rcases hc with hc|⟨hc,bM⟩
    ·omega
    have h:=h3 hc;have v:=hp.2 _ (cX hc);have e:pk x<pk (gt g i):=by have hn:¬((gt g i).Kind=x.Kind∧(gt g i).Number=x.Number):=λhe=>bM (S5 he.1 he.2);obtain⟨v1,v2,v3,v4⟩:=v;obtain⟨w1,w2,w3,w4⟩:=hv;unfold pk;omega
    by_cases iC:i=j
    ·rw[<-iC];exact e
    ·have:=hp.lt (show i<j by omega) dt;omega
   refine List.pairwise_append.2 ⟨hp.1.sublist (List.take_sublist _ _),pY.2 ⟨λy hy=>?_,hp.1.sublist (List.drop_sublist _ _)⟩,λy hy z hz=>?_⟩
   ·have hy:y∈g.drop i:=hy;obtain⟨j,hj,rfl⟩:=F5 hy;rw[List.getElem_drop,<-fQ];simp only[List.length_drop]at hj;exact hi _ (by omega) (by omega)
   ·obtain⟨j,hj,rfl⟩:=F5 hy;simp only[o9]at hj;rw[List.getElem_take,<-fQ];have Bf:=lo j (by omega);rcases bg.1 hz with hz|hz
    ·rw[cY.1 hz];exact Bf
    ·obtain⟨q,hq,rfl⟩:=F5 hz;rw[List.getElem_drop,<-fQ];simp only[List.length_drop]at hq;have:=hi (i+q) (by omega) (by omega);omega
  ·rcases bg.1 hy with hy|hy
   ·exact hp.2 _ (uI hy)
   ·rcases bg.1 hy with hy|hy
    ·rw[cY.1 hy];exact hv
    ·exact hp.2 _ (List.mem_of_mem_drop hy)
 by_cases hi:i<g.length
 ·simp only[aZ hi,aH,aM hi,al];refine Wp.ite (λhh=>aq.2 ⟨⟨λe=>by rw[e]at hi;simp at hi,by omega⟩,λy hy=> .inr hy,λhp _=>hp⟩) λhh=>fin (.inr ⟨hi,λe=>?_⟩);rw[e]at hh;simp at hh
 ·rw[dF (show ¬(i:Int)<len g by unfold len;omega),aK (by decide)];simp only[al,aC,aB];exact fin (.inl hi)
def lk(x:fI):Int:=pk x.cu*1024+pk x.To
def Ce(P:List Part)(L:List fI):Prop:=(∀x∈L,(x.cu∈P∧x.To∈P)∧x.cu≠x.To)∧(kD P->mn lk L)
def ZX{l:List Int}{a:Int}(hs:Sr l a){P:List Part}(hP:P.length<=1000):Wp (JM ⟨l,a⟩ P) λr=>Sr r.1 r.2.1∧r.2.2.1=P∧r.2.2.2.length<=20∧Ce P r.2.2.2:=by
 unfold JM;refine Wp.bind (Q:=λr:List fI×List Int×Int=>Sr r.2.1 r.2.2∧r.1.length<=20∧Ce P r.1) ?_ λr hr=>aq.2 ⟨hr.1,rfl,hr.2⟩;refine dy P.length (λk s=>∃L l a,s=((k:Int),L,l,a)∧Sr l a∧L.length<=20∧Ce P L∧(kD P->∀x∈L,∀i,k<=i->i<P.length->pk x.cu<pk (gt P i))) ⟨[],l,a,rfl,hs,by simp,⟨λx hx=>(by cases hx),λ_=> .nil⟩,λ_ x hx=>(by cases hx)⟩ ?_ ?_
 ·rintro k s hk ⟨L,l,a,rfl,hs,h1,h2,h3⟩;unfold Yr;simp only[aZ hk,aH,aM hk,al];refine Wp.bind (Q:=λr:List fI×List Int×Int=>Sr r.2.1 r.2.2∧r.1.length<=20∧Ce P r.1∧(kD P->∀x∈r.1,∀i,k+1<=i->i<P.length->pk x.cu<pk (gt P i))) ?_ λr hr=>aq.2 ⟨r.1,r.2.1,r.2.2,by rw[aY (by omega)],hr⟩;refine dy P.length (λj s=>∃L l a,s=((j:Int),L,l,a)∧Sr l a∧L.length<=20∧Ce P L∧(kD P->∀x∈L,pk x.cu<pk (gt P k)∨(x.cu=gt P k∧∀i,j<=i->i<P.length->pk x.To<pk (gt P i)))) ⟨L,l,a,rfl,hs,h1,h2,λhp x hx=> .inl (h3 hp x hx k (bw _) hk)⟩ ?_ ?_
  ·rintro j s hj ⟨L,l,a,rfl,hs,h1,h2,h3⟩;unfold Yq;simp only[aZ hj,aH,aM hj,al];refine Wp.bind (Q:=λr:Bool×List Int×Int=>Sr r.2.1 r.2.2∧(r.1=ab->gt P k≠gt P j∧L.length<20)) ?_ λr hr=>?_
   ·refine Wp.ite (λhh=>?_) λ_=>aq.2 ⟨hs,λh=>by cases h⟩;refine Wp.ite (λh20=>?_) λ_=>aq.2 ⟨hs,λh=>by cases h⟩;refine(ij hs (n:=7) (by omega) (by omega)).bind λy hy=>aq.2 ⟨hy.2,λ_=>⟨λe=>?_,?_⟩⟩
    ·rw[e]at hh;simp at hh
    ·have:=jJ h20;unfold len at this;omega
   ·refine Wp.bind (Q:=λL':List fI=>L'.length<=20∧Ce P L'∧(kD P->∀x∈L',pk x.cu<pk (gt P k)∨(x.cu=gt P k∧∀i,j+1<=i->i<P.length->pk x.To<pk (gt P i)))) ?_ λL' hL'=>aq.2 ⟨L',r.2.1,r.2.2,by rw[aY (by omega)],hr.1,hL'⟩;have dn:kD P->∀x∈L,pk x.cu<pk (gt P k)∨(x.cu=gt P k∧∀i,j+1<=i->i<P.length->pk x.To<pk (gt P i)):=λhp x hx=>(h3 hp x hx).imp id λh=>⟨h.1,λi hi hl=>h.2 i (by omega) hl⟩;refine Wp.ite (λhh=>?_) λ_=>aq.2 ⟨h1,h2,dn⟩;obtain⟨q1,q2⟩:=hr.2 hh;rw[cJ (by simp;omega)];refine aq.2 ⟨by simp;omega,⟨λx hx=>?_,λhp=>?_⟩,λhp x hx=>?_⟩
    ·rcases bg.1 hx with hx|hx
     ·exact h2.1 x hx
     ·rw[cY.1 hx];exact⟨⟨cX hk,cX hj⟩,q1⟩
    ·refine List.pairwise_append.2 ⟨h2.2 hp,List.pairwise_singleton _ _,λx hx y hy=>?_⟩;rw[cY.1 hy];have b1:=(hp.2 _ ((h2.1 x hx).1.2)).bd;have b2:=(hp.2 _ (cX hj)).bd;show lk x<pk (gt P k)*1024+pk (gt P j);unfold lk;rcases h3 hp x hx with h|⟨h,h'⟩
     ·omega
     ·rw[h];have:=h' j (bw _) hj;omega
    ·rcases bg.1 hx with hx|hx
     ·exact dn hp x hx
     ·rw[cY.1 hx];exact .inr ⟨rfl,λi hi hl=>hp.lt (by omega) hl⟩
  ·rintro s ⟨L,l,a,rfl,hs,h1,h2,h3⟩;unfold Yq;simp only[bC,aC,aB];refine aq.2 ⟨hs,h1,h2,λhp x hx i hi hl=>?_⟩;have:=hp.lt (show k<i by omega) hl;rcases h3 hp x hx with h|⟨h,_⟩
   ·omega
   ·rw[h];exact this
 ·rintro s ⟨L,l,a,rfl,hs,h1,h2,h3⟩;unfold Yr;simp only[bC,aC,aB];exact aq.2 ⟨hs,h1,h2⟩
def Ay:List ByteArray:=[ed [111,110,101],ed [116,119,111],ed [103,45,51],ed [120]]
def JX(P:List Part)(g:List Part):Prop:=(g≠[]∧∀x∈g,x∈P)∧(kD P->kD g)
def QC(P:List Part)(G:List jt):Prop:=∃n:Nat,n<=3∧G.length<=n∧∀i,i<G.length->Ay[n-i]? =aa (gt G i).Name∧JX P (gt G i).eI
def ZZ{l:List Int}{a:Int}(hs:Sr l a){P:List Part}(hP:P.length<=900):Wp (JN ⟨l,a⟩ P) λr=>Sr r.1 r.2.1∧r.2.2.1=P∧QC P r.2.2.2:=by
 unfold JN;refine(ij hs (n:=4) (by omega) (by omega)).bind λy hy=>?_;obtain⟨⟨n0,n1⟩,hs⟩:=hy;obtain⟨n,hn⟩:=nF n0;have hn:y.1=(n:Int):=hn;rw[hn]at n1⊢;refine Wp.bind (Q:=λr:List jt×List Int×Int=>Sr r.2.1 r.2.2∧QC P r.1) ?_ λr hr=>aq.2 ⟨hr.1,rfl,hr.2⟩;refine pn (λs=>s.1.toNat) (λs=>∃(k:Nat) (G:List jt) (l:List Int) (a:Int),s=(((n-k:Nat):Int),G,l,a)∧k<=n∧Sr l a∧G.length=k∧∀i,i<G.length->Ay[n-i]? =aa (gt G i).Name∧JX P (gt G i).eI) (λs hs=>?_) ⟨0,[],_,_,rfl,jS _,hs,rfl,λi hi=>by simp at hi⟩ (by simp only;omega);obtain⟨k,G,l,a,rfl,hk,hs,h1,h2⟩:=hs;have stop:Sr l a∧QC P G:=⟨hs,n,by omega,by omega,h2⟩;unfold ak5;by_cases H7:k<n
 ·simp only[dT (show((n-k:Nat):Int)>0 by omega),aH,al];by_cases h0:0<P.length
  ·simp only[dT (show len P>0 by unfold len;omega),aH];obtain⟨nm,hnm⟩:∃nm,Ay[n-k]? =aa nm:=⟨_,List.getElem?_eq_getElem (by simp[Ay];omega)⟩;rw[show idx [ed [111,110,101],ed [116,119,111],ed [103,45,51],ed [120]] ((n-k:Nat):Int)=aa nm from by rw[M9];exact hnm];simp only[al];refine(ij hs (n:=len P) (by unfold len;omega) (by unfold len;omega)).bind λz hz=>?_;obtain⟨⟨z0,z1⟩,hs⟩:=hz;unfold len at z1;rw[iI z0 z1];simp only[al];have Ee:=cX (l:=P) (k:=z.1.toNat) (by omega);refine Wp.bind (Q:=λr:List Int×Int×ByteArray×List Part=>Sr r.1 r.2.1∧r.2.2.1=nm∧JX P r.2.2.2) ?_ λr hr=>?_
   ·refine dy P.length (λj s=>∃l a g,s=((j:Int),l,a,nm,g)∧Sr l a∧g.length<=j+1∧JX P g) ⟨_,_,_,rfl,hs,by simp,⟨by simp,λx hx=>by rw[cY.1 hx];exact Ee⟩,λhp=>⟨List.pairwise_singleton _ _,λx hx=>by rw[cY.1 hx];exact hp.2 _ Ee⟩⟩ ?_ ?_
    ·rintro j s hj ⟨l,a,g,rfl,hs,e1,e2⟩;unfold Ys;simp only[aZ hj,aH,aM hj,al];refine(ij hs (n:=4) (by omega) (by omega)).bind λw hw=>?_;refine Wp.bind (Q:=λr:ByteArray×List Part=>r.1=nm∧r.2.length<=j+2∧JX P r.2) ?_ λr hr=>aq.2 ⟨_,_,r.2,by rw[aY (by omega),<-hr.1],hw.2,hr.2⟩;refine Wp.ite (λ_=>?_) λ_=>aq.2 ⟨rfl,by simp only;omega,e2⟩;refine(al2 (show g.length<=1000 by omega) (gt P j)).bind λr hr=>aq.2 ⟨rfl,by have:=hr.1.2;simp only;omega,⟨hr.1.1,λx hx=>?_⟩,λhp=>hr.2.2 (e2.2 hp) (hp.2 _ (cX hj))⟩;rcases hr.2.1 x hx with rfl|hx
     ·exact cX hj
     ·exact e2.1.2 x hx
    ·rintro s ⟨l,a,g,rfl,hs,e1,e2⟩;unfold Ys;simp only[bC,aC,aB];exact aq.2 ⟨hs,rfl,e2⟩
   ·rw[cJ (by simp;omega)];simp only[al];refine aq.2 ⟨⟨k+1,G++[⟨r.2.2.1,r.2.2.2⟩],r.1,r.2.1,?_,by omega,hr.1,by simp;omega,λi hi=>?_⟩,?_⟩
    ·rw[nv (show n-k<1000000000000000000 by omega) (by omega),Nat.sub_sub]
    ·rw[oN (by simpa using hi)];by_cases lI:i<G.length
     ·rw[aI lI];exact h2 i lI
     ·rw[aK lI,hr.2.1];have:i=k:=by simp at hi;omega
      rw[this];exact⟨hnm,hr.2.2⟩
    ·simp only;rw[nv (show n-k<1000000000000000000 by omega) (by omega)];omega
  ·simp only[dF (show ¬len P>0 by unfold len;omega),aC,aB];exact aq.2 stop
 ·simp only[dF (show ¬((n-k:Nat):Int)>0 by omega),aC,aB,al];exact aq.2 stop
structure zC(d:b_):Prop where
 n:d.eI.length<=40
 vn:kD d.eI
 ln:d.cw.length<=20
 TJ:Ce d.eI d.cw
 VS:QC d.eI d.gb
def akE{l:List Part}(hn:l.length<=1000)(h:kD l):IT l=aa ab:=by
 have e:aG (OH l) 1=aa (.inl ()):=dR (λk=>((k+1:Nat):Int)) (l.length-1) (λk hk=>by
  unfold OH;obtain⟨c,hc,c1,c2,c3⟩:=Mo (h.2 _ (cX (show k<l.length by omega))) (h.2 _ (cX (show k+1<l.length by omega)));have:=c1.2 (h.lt (show k<k+1 by omega) (by omega));simp only[aZ (show k+1<l.length by omega),aH,aM (show k+1<l.length by omega),nv (k:=k+1) (by omega) (by omega),F2,aM (show k<l.length by omega),al,hc,dF (show ¬c>=0 by omega),aC,aB];rw[aY (by omega)]) (by
  unfold OH;rw[dF (show ¬((l.length-1+1:Nat):Int)<len l by unfold len;omega)];rfl)
 unfold IT;rw[e];rfl
def amU{p:Part}(h:VP p):OJ p=aa ae:=by obtain⟨h1,h2,h3,h4⟩:=h;unfold OJ Ws;simp only[dT (show p.Kind>=1 from h1),dT h2,dT (show p.Number>=0 from h3),dT h4,aH,al,dP]
def apd{l:List Part}(hn:l.length<=1000)(h:kD l):OK l=aa ab:=by
 have e:aG (KO l) 0=aa (.inl ()):=dR (λk=>(k:Int)) l.length (λk hk=>by
  unfold KO;simp only[aZ hk,aH,aM hk,al,amU (h.2 _ (cX hk)),aC,aB];rw[aY (by omega)]) (by
  unfold KO;simp only[bC,aC,aB])
 unfold OK Sa R3;rw[e];simp only[al,bx,akE hn h];rfl
def asK{x y:fI}(h1:VP x.cu)(h2:VP x.To)(h3:VP y.cu)(h4:VP y.To)(h:lk x<lk y):∃c,OA x y=aa c∧c<0:=by
 obtain⟨c,hc,c1,c2,c3⟩:=Mo h1 h3;obtain⟨e,he,e1,e2,e3⟩:=Mo h2 h4;have b1:=h1.bd;have b2:=h2.bd;have b3:=h3.bd;have b4:=h4.bd;unfold lk at h;unfold OA;simp only[hc,he,Mq,al];refine⟨_,rfl,?_⟩;by_cases h0:c=0
 ·rw[aK (by omega)];have:=c2.1 h0;exact e1.2 (by omega)
 ·rw[aI h0];have:pk x.cu≠pk y.cu:=λhe=>h0 (c2.2 he);exact c1.2 (by omega)
def asJ{d:b_}(h:zC d):OC d=aa ab:=by
 obtain⟨hn,hp,lH,hl,_⟩:=h;have e1:aG (Oz d) 0=aa (.inl ()):=dR (λk=>(k:Int)) d.cw.length (λk hk=>by
  unfold Oz;obtain⟨⟨m1,m2⟩,m3⟩:=hl.1 _ (cX hk);simp only[aZ hk,aH,aM hk,al,Bu (show d.eI.length<=1000000 by omega),fG m1,fG m2,dP,aC,aB,show((gt d.cw k).cu.Kind==(gt d.cw k).To.Kind&&(gt d.cw k).cu.Number==(gt d.cw k).To.Number)=ae from N8 m3];rw[aY (by omega)]) (by
  unfold Oz;simp only[bC,aC,aB])
 have e2:aG (OI d.cw) 1=aa (.inl ()):=dR (λk=>((k+1:Nat):Int)) (d.cw.length-1) (λk hk=>by
  unfold OI;have mJ:k<d.cw.length:=by omega
  have eK:k+1<d.cw.length:=by omega
  have m1:=(hl.1 _ (cX mJ)).1;have m2:=(hl.1 _ (cX eK)).1;have aS:lk (gt d.cw k)<lk (gt d.cw (k+1)):=by rw[fQ mJ,fQ eK];exact Ck.1 (hl.2 hp) k (k+1) mJ eK (by omega)
  obtain⟨c,hc,c1⟩:=asK (hp.2 _ m1.1) (hp.2 _ m1.2) (hp.2 _ m2.1) (hp.2 _ m2.2) aS;simp only[aZ eK,aH,aM eK,nv (k:=k+1) (by omega) (by omega),F2,aM mJ,al,hc,dF (show ¬c>=0 by omega),aC,aB];rw[aY (by omega)]) (by
  unfold OI;rw[dF (show ¬((d.cw.length-1+1:Nat):Int)<len d.cw by unfold len;omega)];rfl)
 unfold OC Wr;rw[e1,e2];rfl
def arK:EV (ed [116,119,111])=aa ab:=by kernel_rfl
def arJ:EV (ed [103,45,51])=aa ab:=by kernel_rfl
def arI:EV (ed [120])=aa ab:=by kernel_rfl
def arW:(ed [111,110,101]==ed [116,119,111])=ae:=by kernel_rfl
def arV:(ed [111,110,101]==ed [103,45,51])=ae:=by kernel_rfl
def arU:(ed [111,110,101]==ed [120])=ae:=by kernel_rfl
def arT:(ed [116,119,111]==ed [111,110,101])=ae:=by kernel_rfl
def arS:(ed [116,119,111]==ed [103,45,51])=ae:=by kernel_rfl
def arR:(ed [116,119,111]==ed [120])=ae:=by kernel_rfl
def arQ:(ed [103,45,51]==ed [111,110,101])=ae:=by kernel_rfl
def arP:(ed [103,45,51]==ed [116,119,111])=ae:=by kernel_rfl
def arO:(ed [103,45,51]==ed [120])=ae:=by kernel_rfl
def arN:(ed [120]==ed [111,110,101])=ae:=by kernel_rfl
def arM:(ed [120]==ed [116,119,111])=ae:=by kernel_rfl
def arL:(ed [120]==ed [103,45,51])=ae:=by kernel_rfl
def amO{n:Nat}(h0:1<=n)(h:n<=3){x:ByteArray}(hx:Ay[n]? =aa x):EV x=aa ab:=by
 match n,h0,h with
 |1,_,_=>cases hx;exact arK
 |2,_,_=>cases hx;exact arJ
 |3,_,_=>cases hx;exact arI
def arX{i j:Nat}(hi:i<4)(hj:j<4)(bM:i≠j){x y:ByteArray}(hx:Ay[i]? =aa x)(hy:Ay[j]? =aa y):(x==y)=ae:=by
 match i,j,hi,hj with
 |0,0,_,_|1,1,_,_|2,2,_,_|3,3,_,_=>exact(bM rfl).elim
 |0,1,_,_=>cases hx;cases hy;exact arW
 |0,2,_,_=>cases hx;cases hy;exact arV
 |0,3,_,_=>cases hx;cases hy;exact arU
 |1,0,_,_=>cases hx;cases hy;exact arT
 |1,2,_,_=>cases hx;cases hy;exact arS
 |1,3,_,_=>cases hx;cases hy;exact arR
 |2,0,_,_=>cases hx;cases hy;exact arQ
 |2,1,_,_=>cases hx;cases hy;exact arP
 |2,3,_,_=>cases hx;cases hy;exact arO
 |3,0,_,_=>cases hx;cases hy;exact arN
 |3,1,_,_=>cases hx;cases hy;exact arM
 |3,2,_,_=>cases hx;cases hy;exact arL
def axi{d:b_}(h:zC d):OE d=aa ab:=by
 obtain⟨hn,hp,_,_,n,n3,hg,hG⟩:=h;have e1:aG (OD d) 0=aa (.inl ()):=dR (λk=>(k:Int)) d.gb.length (λk hk=>by
  obtain⟨g1,⟨g2,g3⟩,g4⟩:=hG k hk;have g4:=g4 hp;have hlen:(gt d.gb k).eI.length<=40:=lR (Ax g4.1.nodup g3) hn;have hE:Ll (d.gb.take k) (gt d.gb k)=aa ae:=by
   have oK:(d.gb.take k).length=k:=by rw[o9];omega
   have e:aG (KP (d.gb.take k) (gt d.gb k)) 0=aa (.inl ()):=dR (λj=>(j:Int)) (d.gb.take k).length (λj hj=>by
    rw[oK]at hj;unfold KP Wq;have nT:j<(d.gb.take k).length:=by omega
    have ej:gt (d.gb.take k) j=gt d.gb j:=by rw[fQ nT,fQ (by omega),List.getElem_take]
    simp only[aZ nT,aH,aM nT,al,ej,arX (show n-j<4 by omega) (show n-k<4 by omega) (by omega) (hG j (by omega)).1 g1,aC,aB];rw[aY (by omega)]) (by
    unfold KP;simp only[bC,aC,aB])
   unfold Ll R5;rw[e];rfl
  have hF:Lk (gt d.gb k).eI d=aa ae:=by
   have e:aG (KN (gt d.gb k).eI d) 0=aa (.inl ()):=dR (λj=>(j:Int)) (gt d.gb k).eI.length (λj hj=>by
    unfold KN Wo;simp only[aZ hj,aH,aM hj,al,Bu (show d.eI.length<=1000000 by omega),fG (g3 _ (cX hj)),dP,aC,aB];rw[aY (by omega)]) (by
    unfold KN;simp only[bC,aC,aB])
   unfold Lk R2;rw[e];rfl
  have h0:(len (gt d.gb k).eI==0)=ae:=by have:=xK.2 g2;exact dL (by unfold len;omega)
  unfold OD;rw[show dH d.gb 0 (k:Int)=aa (d.gb.take k)from Dh (by omega)];simp only[aZ hk,aH,aM hk,al,amO (show 1<=n-k by omega) (by omega) g1,dP,aC,aB,hE,h0,hF,akE (show(gt d.gb k).eI.length<=1000 by omega) g4];rw[aY (by omega)]) (by
  unfold OD;simp only[bC,aC,aB]) (by omega)
 unfold OE;rw[e1];rfl
def E4{d:b_}(h:zC d):vW d=aa 0:=by have h1:=h.n;have h2:=h.ln;obtain⟨n,h3,h4,_⟩:=h.VS;unfold vW;simp only[dF (show ¬len d.eI>40 by unfold len;omega),dF (show ¬len d.cw>60 by unfold len;omega),dF (show ¬len d.gb>6 by unfold len;omega),aC,aB,al,apd (show d.eI.length<=1000 by omega) h.vn,asJ h,axi h,dP]
end Rx
namespace Rx
open Classical
section
variable {l:List Int} {a:Int}
def amH(hs:Sr l a):Wp (Qq ⟨l,a⟩) λr=>Sr r.2.2.1 r.2.2.2:=by unfold Qq;refine(dU hs (by simp) (by simp)).bind λx h1=>(dU h1.2 (by simp) (by simp)).bind λy h2=>?_;unfold lA;rw[aK (by omega)];exact aq.2 h2.2
def al7(hs:Sr l a):Wp (P' ⟨l,a⟩) λr=>Sr r.2.2.2.2.2.1 r.2.2.2.2.2.2.1:=by
 unfold P';refine(qf hs (by omega) (by omega) (by omega) (by omega)).bind λx1 h=>(ij h.2 (by omega) (by omega)).bind λx2 h=>(dU h.2 (by simp) (by simp)).bind λx3 h=>(dU h.2 (by simp) (by simp)).bind λx4 h=>(dU h.2 (by simp) (by simp)).bind λx5 h=>(ij h.2 (by omega) (by omega)).bind λx6 h6=>?_;obtain⟨⟨n0,n1⟩,hs6⟩:=h6;obtain⟨n,hn⟩:=nF n0;have hn:x6.1=(n:Int):=hn;rw[hn]at n1⊢;refine Wp.bind (Q:=λr=>Sr r.1 r.2.1) ?_ λr hr=>aq.2 hr;refine dy n (λk s=>∃l a F,s=(((n-k:Nat):Int),l,a,x1.1,x2.1,x3.1,x4.1,x5.1,F)∧Sr l a∧F.length<=k) ⟨_,_,[],rfl,hs6,jS _⟩ ?_ ?_
 ·rintro k s hk ⟨l,a,F,rfl,e1,e2⟩;unfold Yw;simp only[dT (show((n-k:Nat):Int)>0 by omega),aH];refine(amH e1).bind λr hr=>?_;rw[cJ (by simp;omega)];refine aq.2 ⟨_,_,F++[⟨r.1,r.2.1⟩],?_,hr,by rw[cW];exact Nat.succ_le_succ e2⟩;rw[nv (show n-k<1000000000000000000 by omega) (by omega),Nat.sub_sub]
 ·rintro s ⟨l,a,F,rfl,e1,e2⟩;unfold Yw;simp only[dF (show ¬((n-n:Nat):Int)>0 by omega),aC,aB];exact aq.2 e1
def al_(hs:Sr l a):Wp (Qb ⟨l,a⟩ 2) λr=>r.2.2.2.2.length<=8∧Sr r.2.2.1 r.2.2.2.1:=by
 unfold Qb;rw[show W (2+1)=3 from rfl];refine(dU hs (by simp) (by simp)).bind λx1 h=>(dU h.2 (by simp) (by simp)).bind λx2 h=>(ij h.2 (by omega) (by omega)).bind λx3 h3=>?_;obtain⟨⟨n0,n1⟩,hs3⟩:=h3;obtain⟨n,hn⟩:=nF n0;have hn:x3.1=(n:Int):=hn;rw[hn]at n1⊢;refine Wp.bind (Q:=λr=>r.2.2.2.2.length<=n∧Sr r.1 r.2.1) ?_ λr hr=>aq.2 ⟨by have:=hr.1;simp only;omega,hr.2⟩;refine dy n (λk s=>∃l a M,s=(((n-k:Nat):Int),l,a,x1.1,x2.1,M)∧Sr l a∧M.length<=k) ⟨_,_,[],rfl,hs3,jS _⟩ ?_ ?_
 ·rintro k s hk ⟨l,a,M,rfl,e1,e2⟩;unfold Yz;simp only[dT (show((n-k:Nat):Int)>0 by omega),aH];refine(al7 e1).bind λr hr=>?_;rw[cJ (by simp;omega)];refine aq.2 ⟨_,_,M++[⟨r.1,r.2.1,r.2.2.1,r.2.2.2.1,r.2.2.2.2.1,r.2.2.2.2.2.2.2⟩],?_,hr,by rw[cW];exact Nat.succ_le_succ e2⟩;rw[nv (show n-k<1000000000000000000 by omega) (by omega),Nat.sub_sub]
 ·rintro s ⟨l,a,M,rfl,e1,e2⟩;unfold Yz;simp only[dF (show ¬((n-n:Nat):Int)>0 by omega),aC,aB];exact aq.2 ⟨e2,e1⟩
def amF(hs:Sr l a):Wp (Qp ⟨l,a⟩) λr=>Sr r.2.2.2.1 r.2.2.2.2.1∧r.2.2.2.2.2.2.2.length<=5:=by
 unfold Qp;refine(qf hs (lo:=1) (hi:=4) (by omega) (by omega) (by omega) (by omega)).bind λy hy=>?_;obtain⟨nb,l,a⟩:=y;obtain⟨Bc,hs⟩:=hy;simp only at Bc hs⊢;refine(dU hs (by simp) (by simp)).bind λy hy=>?_;obtain⟨ph,l,a,z⟩:=y;obtain⟨hph,hs⟩:=hy;simp only[cj,jT,kF]at hph hs⊢;refine(dU hs (by simp) (by simp)).bind λy hy=>?_;obtain⟨fr,l,a,z⟩:=y;obtain⟨eF,hs⟩:=hy;simp only[cj,jT,kF]at eF hs⊢;refine Wp.bind (Q:=λx=>∃l a br,x=(l,a,nb,ph,fr,br)∧Sr l a∧br.length<=3) ?_ λx hx=>?_
 ·refine dy (nb-1).toNat (λk s=>∃l a br,s=((k:Int)+1,l,a,nb,ph,fr,br)∧Sr l a∧br.length<=k) ⟨_,_,_,rfl,hs,bw _⟩ ?_ ?_
  ·rintro k s hk ⟨l,a,br,rfl,hs,h2⟩;unfold YL;simp only[dT (c:=(k:Int)+1<nb) (by omega),aH];refine(ij hs (n:=6) (by omega) (by omega)).bind λy hy=>?_;obtain⟨y,l,a⟩:=y;obtain⟨hy,hs⟩:=hy;simp only at hy hs⊢;refine Wp.bind (Q:=λx=>∃l a br,x=(l,a,nb,ph,fr,br)∧Sr l a∧br.length<=k+1) ?_ λx hx=>?_
   ·refine Wp.ite (λ_=>?_) (λ_=>aq.2 ⟨_,_,_,rfl,hs,by omega⟩);refine(ij hs (n:=(k:Int)+1) (by omega) (by omega)).bind λz hz=>?_;obtain⟨z,l,a⟩:=z;obtain⟨hz,hs⟩:=hz;simp only at hz hs⊢;rw[cJ (by simp;omega)];exact aq.2 ⟨_,_,_,rfl,hs,by simp;omega⟩
   ·obtain⟨l,a,XW,rfl,hs,h4⟩:=hx;refine aq.2 ⟨l,a,XW,?_,hs,h4⟩;try simp only
    rw[bX (by omega) (by omega)];rfl
  ·rintro s ⟨l,a,br,rfl,hs,h2⟩;unfold YL;simp only[dF (c:=(((nb-1).toNat:Nat):Int)+1<nb) (by omega),aC,aB];exact aq.2 ⟨_,_,_,rfl,hs,by omega⟩
 obtain⟨l,a,br1,rfl,hs,d_⟩:=hx;try simp only
 refine Wp.bind (Q:=λx=>∃c l a,x=(c,l,a)∧Sr l a∧(c=ab->2<nb)) ?_ λx pE=>?_
 ·refine Wp.ite (λh=>?_) (λ_=>aq.2 ⟨_,_,_,rfl,hs,λh=>by cases h⟩);refine(ij hs (n:=2) (by omega) (by omega)).bind λy hy=>?_;obtain⟨y,l,a⟩:=y;exact aq.2 ⟨_,_,_,rfl,hy.2,λ_=>jJ h⟩
 obtain⟨more,l,a,rfl,hs,pE⟩:=pE;try simp only
 refine Wp.bind (Q:=λx=>∃br,x=(nb,ph,fr,br)∧br.length<=4) ?_ λx AU=>?_
 ·refine Wp.ite (λh=>?_) (λ_=>aq.2 ⟨_,rfl,by omega⟩);have h2:=pE h;rw[cJ (by simp;omega),bX (x:=nb-1) (by omega) (by omega)];exact aq.2 ⟨_,rfl,by simp;omega⟩
 obtain⟨br2,rfl,HK⟩:=AU;try simp only
 refine(ij hs (n:=5) (by omega) (by omega)).bind λy hy=>?_;obtain⟨m,l,a⟩:=y;obtain⟨hy,hs⟩:=hy;simp only at hy hs⊢;refine Wp.bind (Q:=λx=>∃l a br S,x=(l,a,nb,ph,fr,br,S)∧Sr l a∧br.length<=8∧S.length<=4) ?_ λx hx=>?_
 ·refine dy m.toNat (λk s=>∃l a br S,s=(m-k,l,a,nb,ph,fr,br,S)∧Sr l a∧br.length<=4+k∧S.length=k) ⟨l,a,br2,[],by simp,hs,by simpa using HK,rfl⟩ ?_ ?_
  ·rintro k s hk ⟨l,a,br,S,rfl,hs,h2,h3⟩;unfold YK;simp only[dT (c:=m-(k:Int)>0) (by omega),aH];refine(ij hs (n:=nb) (by omega) (by omega)).bind λy tY=>?_;obtain⟨c,l,a⟩:=y;obtain⟨tY,hs⟩:=tY;simp only at tY hs⊢;rw[cJ (xs:=br) (by simp;omega)];simp only[al];refine(dU hs (by simp) (by simp)).bind λy hr=>?_;obtain⟨r,l,a,z⟩:=y;obtain⟨hr,hs⟩:=hr;simp only[cj,jT,kF]at hr hs⊢;refine(dU hs (by simp) (by simp)).bind λy hl=>?_;obtain⟨le,l,a,z⟩:=y;obtain⟨hl,hs⟩:=hl;simp only[cj,jT,kF]at hl hs⊢;refine(dU hs (by simp) (by simp)).bind λy ht=>?_;obtain⟨st,l,a,z⟩:=y;obtain⟨ht,hs⟩:=ht;simp only[cj,jT,kF]at ht hs⊢;rw[cJ (xs:=S) (by simp;omega)];simp only[al];refine aq.2 ⟨l,a,br++[⟨2,c,len S⟩],S++[⟨r,le,st⟩],?_,hs,by simp;omega,by simp;omega⟩;rw[bX (by omega) (by omega),show m-(k:Int)-1=m-((k+1:Nat):Int)from by omega]
  ·rintro s ⟨l,a,br,S,rfl,hs,h2,h3⟩;unfold YK;simp only[dF (c:=m-((m.toNat:Nat):Int)>0) (by omega),aC,aB];exact aq.2 ⟨_,_,_,_,rfl,hs,by omega,by omega⟩
 obtain⟨l,a,br3,S,rfl,hs,g2,g3⟩:=hx;try simp only
 refine(ij hs (n:=6) (by omega) (by omega)).bind λy tY=>?_;obtain⟨m2,l,a⟩:=y;obtain⟨tY,hs⟩:=tY;simp only at tY hs⊢;refine Wp.bind (Q:=λx=>∃l a br C,x=(l,a,nb,ph,fr,br,C)∧Sr l a∧br.length<=18∧C.length<=5) ?_ λx hx=>?_
 ·refine dy m2.toNat (λk s=>∃l a br C,s=(m2-k,l,a,nb,ph,fr,br,C)∧Sr l a∧br.length<=8+2*k∧C.length=k) ⟨l,a,br3,[],by simp,hs,by simpa using g2,rfl⟩ ?_ ?_
  ·rintro k s hk ⟨l,a,br,C,rfl,hs,h2,h3⟩;unfold YJ;simp only[dT (c:=m2-(k:Int)>0) (by omega),aH];refine(ij hs (n:=nb) (by omega) (by omega)).bind λy Ug=>?_;obtain⟨c,l,a⟩:=y;obtain⟨Ug,hs⟩:=Ug;simp only at Ug hs⊢;rw[cJ (xs:=br) (by simp;omega)];simp only[al];refine Wp.bind (Q:=λx=>∃c l a,x=(c,l,a)∧Sr l a∧(c=ab->1<nb)) ?_ λx HJ=>?_
   ·refine Wp.ite (λh=>?_) (λ_=>aq.2 ⟨_,_,_,rfl,hs,λh=>by cases h⟩);refine(ij hs (n:=4) (by omega) (by omega)).bind λy hy=>?_;obtain⟨y,l,a⟩:=y;exact aq.2 ⟨_,_,_,rfl,hy.2,λ_=>jJ h⟩
   obtain⟨two,l,a,rfl,hs,HJ⟩:=HJ;try simp only
   refine Wp.bind (Q:=λx=>∃br,x=(nb,ph,fr,br)∧br.length<=8+2*(k+1)) ?_ λx hx7=>?_
   ·refine Wp.ite (λh=>?_) (λ_=>aq.2 ⟨_,rfl,by simp;omega⟩);have Bc:=HJ h;have e1:lA (W (c+1)) nb=aa ((c+1)% nb):=by rw[bX (by omega) (by omega),SN (by omega) (by omega)]
    rw[e1];simp only[al];rw[cJ (by simp;omega)];exact aq.2 ⟨_,rfl,by simp;omega⟩
   obtain⟨XW,rfl,um⟩:=hx7;try simp only
   refine(dU hs (by simp) (by simp)).bind λy hl=>?_;obtain⟨lo,l,a,z⟩:=y;obtain⟨hl,hs⟩:=hl;simp only[cj,jT,kF]at hl hs⊢;rw[Ad (by omega) (by omega) (by omega)];simp only[al];refine(dU hs (by simp) (by simp)).bind λy hle=>?_;obtain⟨le,l,a,z⟩:=y;obtain⟨hle,hs⟩:=hle;simp only[cj,jT,kF]at hle hs⊢;refine(ij hs (n:=3) (by omega) (by omega)).bind λy UE=>?_;obtain⟨pr,l,a⟩:=y;obtain⟨UE,hs⟩:=UE;simp only at UE hs⊢;refine(qf hs (lo:= -1) (hi:=2) (by omega) (by omega) (by omega) (by omega)).bind λy Uq=>?_;obtain⟨th,l,a⟩:=y;obtain⟨Uq,hs⟩:=Uq;simp only at Uq hs⊢;refine Wp.bind (Q:=λx=>∃c l a,x=(c,l,a)∧Sr l a∧(c=ab->0<k)) ?_ λx hx8=>?_
   ·refine Wp.ite (λh=>?_) (λ_=>aq.2 ⟨_,_,_,rfl,hs,λh=>by cases h⟩);refine(ij hs (n:=4) (by omega) (by omega)).bind λy hy=>?_;obtain⟨y,l,a⟩:=y;exact aq.2 ⟨_,_,_,rfl,hy.2,λ_=>by have:=jJ h;unfold len at this;omega⟩
   obtain⟨nd,l,a,rfl,hs,hx8⟩:=hx8;try simp only
   refine Wp.bind (Q:=λx=>∃l a w,x=(l,a,lo,le,pr,th,w)∧Sr l a) ?_ λx hx9=>?_
   ·refine Wp.ite (λh=>?_) (λ_=>aq.2 ⟨_,_,_,rfl,hs⟩);exact(amo hs (n:=len C) (by unfold len;omega) (by unfold len;omega)).bind λy hy4=>aq.2 ⟨_,_,_,rfl,hy4.2⟩
   obtain⟨l,a,ar1,rfl,hs⟩:=hx9;try simp only
   rw[cJ (xs:=C) (by simp;omega)];simp only[al];refine aq.2 ⟨l,a,XW,C++[⟨lo,le,pr,th,ar1⟩],?_,hs,by omega,by simp;omega⟩;rw[bX (by omega) (by omega),show m2-(k:Int)-1=m2-((k+1:Nat):Int)from by omega]
  ·rintro s ⟨l,a,br,C,rfl,hs,h2,h3⟩;unfold YJ;simp only[dF (c:=m2-((m2.toNat:Nat):Int)>0) (by omega),aC,aB];exact aq.2 ⟨_,_,_,_,rfl,hs,by omega,by omega⟩
 obtain⟨l,a,br4,C,rfl,hs,k2,k3⟩:=hx;exact aq.2 ⟨hs,k3⟩
def Rc(hs:Sr l a):Wp (FD ⟨l,a⟩) λr=>Sr r.1 r.2.1:=by
 unfold FD;rw[show mE (0:Int) 12=aa (cR 12 0)from yw (n:=12) (by omega)];simp only[al];refine Wp.bind (Q:=λr:List Int×Int×List Int=>Sr r.1 r.2.1) ?_ λr hr=>aq.2 hr;refine dy 12 (λk s=>∃l a w,s=((k:Int),l,a,w)∧Sr l a∧w.length=12) ⟨l,a,_,rfl,hs,rfl⟩ ?_ ?_
 ·rintro k s hk ⟨l,a,w,rfl,hs,h1⟩;unfold Yp;simp only[dT (show(k:Int)<len (cR 12 (0:Int)) by unfold len;rw[List.length_replicate];omega),aH];refine(dU hs (w:=[0,100,(-300),700,(-1000),1000]) (by simp) (by simp)).bind λy hy=>?_;simp only[aM (show k<w.length by omega),jK (show k<w.length by omega),al];exact aq.2 ⟨_,_,_,by rw[aY (by omega)],hy.2,by simpa using h1⟩
 ·rintro s ⟨l,a,w,rfl,hs,h1⟩;unfold Yp;simp only[dF (show ¬((12:Nat):Int)<len (cR 12 (0:Int)) by unfold len;rw[List.length_replicate];omega),aC,aB];exact aq.2 hs
def Rh(hs:Sr l a):Wp (FE ⟨l,a⟩) λr=>Sr r.1 r.2.1:=by unfold FE;exact(Rc hs).bind λx h1=>(Rc h1).bind λy h2=>(Rc h2).bind λz h3=>aq.2 h3
def amv(hs:Sr l a):Wp (Qk ⟨l,a⟩) λr=>Sr r.2.2.2.2.1 r.2.2.2.2.2.1:=by unfold Qk;refine(Rh hs).bind λx1 h1=>(Rh h1).bind λx2 h2=>(Rh h2).bind λx3 h3=>?_;refine(dU h3 (w:=[1000,1,30,5000,1000000]) (by simp) (by simp)).bind λx4 h4=>?_;refine(dU h4.2 (w:=[100000,1,500,1073741824]) (by simp) (by simp)).bind λx5 h5=>?_;have a4:=h4.1;have a5:=h5.1;simp only[cj,jT,kF]at a4 a5;rw[Ad (a:=x4.1) (by omega) (by omega) (by omega)];simp only[al];refine(dU h5.2 (by simp) (by simp)).bind λx7 h7=>?_;rw[Ad (a:=x5.1) (by omega) (by omega) (by omega)];simp only[al];exact(dU h7.2 (by simp) (by simp)).bind λx9 h9=>aq.2 h9.2
def ame(hs:Sr l a):Wp (Qe ⟨l,a⟩) λr=>Sr r.2.2.2.2.1 r.2.2.2.2.2:=by unfold Qe;exact(ij hs (n:=4) (by omega) (by omega)).bind λx h=>(dU h.2 (w:=[0,10,100]) (by simp) (by simp)).bind λx h=>(dU h.2 (w:=[1,3,10]) (by simp) (by simp)).bind λx h=>(dU h.2 (w:=[0,0,2,4]) (by simp) (by simp)).bind λx h=>aq.2 h.2
def amd(hs:Sr l a):Wp (Qd ⟨l,a⟩ 3) λr=>Sr r.1 r.2.1∧r.2.2.length<=3:=by
 unfold Qd;rw[show W (3+1)=4 from rfl];refine(ij hs (n:=4) (by omega) (by omega)).bind λy hy=>?_;obtain⟨⟨n0,n1⟩,hs⟩:=hy;obtain⟨n,hn⟩:=nF n0;have hn:y.1=(n:Int):=hn;rw[hn]at n1⊢;refine Wp.bind (Q:=λr:List ld×List Int×Int=>Sr r.2.1 r.2.2∧r.1.length<=3) ?_ λr hr=>aq.2 hr;refine dy n (λk s=>∃l a F,s=(((n-k:Nat):Int),F,l,a)∧Sr l a∧F.length<=k) ⟨_,_,[],rfl,hs,jS _⟩ ?_ ?_
 ·rintro k s hk ⟨l,a,F,rfl,e1,e2⟩;unfold YA;simp only[dT (show((n-k:Nat):Int)>0 by omega),aH];refine(ame e1).bind λr hr=>?_;rw[cJ (by simp;omega)];simp only[al];refine aq.2 ⟨_,_,F++[⟨r.1,r.2.1,r.2.2.1,r.2.2.2.1⟩],?_,hr,by rw[cW];exact Nat.succ_le_succ e2⟩;rw[nv (show n-k<1000000000000000000 by omega) (by omega),Nat.sub_sub]
 ·rintro s ⟨l,a,F,rfl,e1,e2⟩;unfold YA;simp only[dF (show ¬((n-n:Nat):Int)>0 by omega),aC,aB];exact aq.2 ⟨e1,by simp only;omega⟩
def amw(hs:Sr l a):Wp (Ql ⟨l,a⟩) λr=>Sr r.2.2.2.2.2.2.2.2.2.1 r.2.2.2.2.2.2.2.2.2.2:=by unfold Ql;exact(dU hs (by simp) (by simp)).bind λx h=>(dU h.2 (by simp) (by simp)).bind λx h=>(dU h.2 (by simp) (by simp)).bind λx h=>(dU h.2 (by simp) (by simp)).bind λx h=>(dU h.2 (by simp) (by simp)).bind λx h=>(dU h.2 (by simp) (by simp)).bind λx h=>(dU h.2 (by simp) (by simp)).bind λx h=>(dU h.2 (by simp) (by simp)).bind λx h=>(dU h.2 (by simp) (by simp)).bind λx h=>aq.2 h.2
def amD(hs:Sr l a):Wp (Qo ⟨l,a⟩) λr=>Sr r.2.2.2.2.1 r.2.2.2.2.2:=by unfold Qo;exact(dU hs (by simp) (by simp)).bind λx h=>(dU h.2 (by simp) (by simp)).bind λx h=>(dU h.2 (by simp) (by simp)).bind λx h=>(dU h.2 (by simp) (by simp)).bind λx h=>aq.2 h.2
def aml(hs:Sr l a):Wp (Qj ⟨l,a⟩) λr=>Sr r.2.2.2.2.2.2.2.1 r.2.2.2.2.2.2.2.2:=by
 unfold Qj;refine Wp.bind (Q:=λr:ByteArray×List Int×Int×List ByteArray=>Sr r.2.1 r.2.2.1) ?_ λx h=>?_
 ·unfold Yx;refine(ij hs (n:=len [ed [100,114,105,108,108],ed [100,105,118,101],ed [97,45,49]]) (by simp[len]) (by simp[len])).bind λy hy=>?_;rw[iI hy.1.1 (by have:=hy.1.2;unfold len at this;omega)];exact aq.2 hy.2
 ·exact(qf h (lo:=1) (hi:=3) (by omega) (by omega) (by omega) (by omega)).bind λx h=>(amD h.2).bind λx h=>(dU h (by simp) (by simp)).bind λx h=>aq.2 h.2
def ZT(hs:Sr l a){n:Int}(h1:n<=1000):Wp (JO ⟨l,a⟩ n 2) λr=>Sr r.1 r.2.1∧r.2.2.length<=n.toNat:=by
 unfold JO;refine Wp.bind (Q:=λr:List Int×List Int×Int=>Sr r.2.1 r.2.2∧r.1.length<=n.toNat) ?_ λr hr=>aq.2 hr;refine dy n.toNat (λk s=>∃l a w,s=((k:Int),w,l,a)∧Sr l a∧w.length<=k) ⟨l,a,[],rfl,hs,bw _⟩ ?_ ?_
 ·rintro k s hk ⟨l,a,w,rfl,hs,h1⟩;unfold Yy;simp only[dT (show(k:Int)<n by omega),aH];refine(ij hs (n:=2) (by omega) (by omega)).bind λy hy=>?_;refine Wp.bind (Q:=λw:List Int=>w.length<=k+1) ?_ λw hw=>aq.2 ⟨_,_,w,by rw[aY (by omega)],hy.2,hw⟩;refine Wp.ite (λ_=>?_) λ_=>aq.2 (by omega);rw[cJ (by simp;omega)];exact aq.2 (by simp;omega)
 ·rintro s ⟨l,a,w,rfl,hs,h1⟩;unfold Yy;simp only[dF (show ¬((n.toNat:Nat):Int)<n by omega),aC,aB];exact aq.2 ⟨hs,h1⟩
def ar3(i:Int):∃x,LM (ed [115]) (xA (λx4:U8=>x4.n) [U8.mk (rA IntKind.u8 (W (97+i)))])=aa x:=by have h:(xA (λx4:U8=>x4.n) [U8.mk (rA IntKind.u8 (W (97+i)))]).size=1:=rfl;have h2:(ed [115]).size=1:=rfl;exact⟨_,aI (by rw[h,h2];omega)⟩
def al'(hs:Sr l a):Wp (Qc ⟨l,a⟩) λr=>Sr r.1 r.2.1:=by
 unfold Qc;refine Wp.bind (Q:=λr:List Int×Int×List nC=>Sr r.1 r.2.1) ?_ λr hr=>aq.2 hr;refine pn (λs=>12-s.1.toNat) (λs=>∃(k:Nat) (l:List Int) (a:Int) (S:List nC),s=((k:Int),l,a,S)∧k<=12∧Sr l a∧S.length<=k) (λs hs=>?_) ⟨0,l,a,[],rfl,by omega,hs,bw _⟩ (by simp only;omega);obtain⟨k,l,a,S,rfl,hk,hs,h1⟩:=hs;unfold ak6;refine Wp.bind (Q:=λr:Bool×List Int×Int=>Sr r.2.1 r.2.2) ?_ λr hr=>?_
 ·refine(ij hs (n:=5) (by omega) (by omega)).bind λy hy=>?_;exact Wp.ite (λ_=>aq.2 hy.2) λ_=>aq.2 hy.2
 refine Wp.ite (λ_=>?_) λ_=>aq.2 hr;refine Wp.ite (λ_=>aq.2 hr) λEw=>?_;have Ew:(k:Int)≠12:=by simpa using Ew
 obtain⟨x,hx⟩:=ar3 (k:Int);refine Wp.nZ hx ?_;refine(dU hr (by simp) (by simp)).bind λx6 h6=>?_;refine(qf h6.2 (lo:=1) (hi:=3) (by omega) (by omega) (by omega) (by omega)).bind λx7 h7=>?_;refine(ZT h7.2 (n:=(k:Int)) (by omega)).bind λx8 h8=>?_;rw[cJ (by simp;omega)];simp only[al];rw[aY (by omega)];exact aq.2 ⟨⟨k+1,_,_,_,rfl,by omega,h8.1,by simp;omega⟩,by simp only;omega⟩
def amI(hs:Sr l a):Wp (Qr ⟨l,a⟩) λr=>Sr r.2.1 r.2.2:=by unfold Qr;exact(dU hs (by simp) (by simp)).bind λx h=>aq.2 h.2
def al3(hs:Sr l a):Wp (P_ ⟨l,a⟩) λr=>Sr r.2.2.2.2.2.2.2.2.2.2.2.2.2.2.2.2.2.2.2.2.2.2.2.2.2.2.2.2.2.2.2.2.1 r.2.2.2.2.2.2.2.2.2.2.2.2.2.2.2.2.2.2.2.2.2.2.2.2.2.2.2.2.2.2.2.2.2.1∧vT ⟨r.2.2.2.2.2.2.2.2.2.1,r.2.2.2.2.2.2.2.2.2.2.1,r.2.2.2.2.2.2.2.2.2.2.2.1⟩:=by
 unfold P_;refine(amv hs).bind λx1 h1=>?_;refine(al_ h1).bind λx2 h2=>?_;refine(amF h2.2).bind λx3 h3=>?_;refine(al8 h3.1).bind λx4 h4=>?_;refine(amd h4.2).bind λx5 h5=>?_;refine(amw h5.1).bind λx6 h6=>?_;refine(dU h6 (by simp) (by simp)).bind λx7 h7=>?_;refine(aml h7.2).bind λx8 h8=>?_;refine(al' h8).bind λx9 h9=>?_;refine(qf h9 (by omega) (by omega) (by omega) (by omega)).bind λbb rO=>?_;refine(qf rO.2 (by omega) (by omega) (by omega) (by omega)).bind λbi Ex=>?_;refine(amI Ex.2).bind λbF Ew=>?_;have hc:=h3.2;have ht:=h2.1;refine Wp.bind (Q:=λr:List Int×Int×List Consumer=>Sr r.1 r.2.1∧r.2.2.length<=5) ?_ λcZ VN=>?_
 ·refine dy x3.2.2.2.2.2.2.2.length (λk s=>∃l a C,s=((k:Int),l,a,C)∧Sr l a∧C.length=x3.2.2.2.2.2.2.2.length) ⟨_,_,_,rfl,Ew,rfl⟩ ?_ ?_
  ·rintro k s hk ⟨l,a,C,rfl,hs,e1⟩;unfold Yv;simp only[aZ hk,aH];rw[bX (x:=len x2.2.2.2.2-1) (by unfold len;omega) (by unfold len;omega)];refine(qf hs (lo:= -1) (hi:=len x2.2.2.2.2-1) (by unfold len;omega) (by omega) (by unfold len;omega) (by unfold len;omega)).bind λy hy=>?_;simp only[aM (show k<C.length by omega),jK (show k<C.length by omega),al];exact aq.2 ⟨_,_,_,by rw[aY (by omega)],hy.2,by simpa using e1⟩
  ·rintro s ⟨l,a,C,rfl,hs,e1⟩;unfold Yv;simp only[bC,aC,aB];exact aq.2 ⟨hs,by simp only;omega⟩
 refine Wp.bind (Q:=λr:List Part×List Int×Int=>Sr r.2.1 r.2.2∧r.1.length<=30) ?_ λkj h26=>?_
 ·refine dy 10 (λk s=>∃l a C,s=((k:Int),C,l,a)∧Sr l a∧C.length<=3*k) ⟨_,_,[],rfl,VN.1,jS _⟩ ?_ ?_
  ·rintro k s hk ⟨l,a,C,rfl,hs,e1⟩;unfold Yu;generalize hw:[0,len x3.2.2.2.2.2.2.1,len x3.2.2.2.2.2.1,x3.1,len cZ.2.2,len x2.2.2.2.2,len x5.2.2,0,0,2]=w;have Nb:w.length=10:=by rw[<-hw];rfl
   simp only[aZ (show k<w.length by omega),aH,aM (show k<w.length by omega),al];refine(ZT hs (n:=eD (gt w k) 3) (by unfold eD;split<;>omega)).bind λy hy=>?_;have h3:y.2.2.length<=3:=lR hy.2 (by unfold eD;split<;>omega);refine Wp.bind (Q:=λr:List Part=>r.length<=3*(k+1)) ?_ λr hr=>aq.2 ⟨_,_,r,by rw[aY (by omega)],hy.1,hr⟩;refine dy y.2.2.length (λj s=>∃D,s=((j:Int),D)∧D.length<=3*k+j) ⟨C,rfl,e1⟩ ?_ ?_
   ·rintro j s hj ⟨D,rfl,d1⟩;unfold Yt;simp only[aZ hj,aH,aM hj,al];rw[cJ (by simp;omega)];exact aq.2 ⟨_,by rw[aY (by omega)],by simp;omega⟩
   ·rintro s ⟨D,rfl,d1⟩;unfold Yt;simp only[bC,aC,aB];exact aq.2 (by omega)
  ·rintro s ⟨l,a,C,rfl,hs,e1⟩;unfold Yu;rw[aK (by simp[len])];exact aq.2 ⟨hs,e1⟩
 refine(ZX h26.1 (show kj.1.length<=1000 by omega)).bind λg_ h27=>?_;rw[h27.2.1];refine(ZZ h27.1 (show kj.1.length<=900 by omega)).bind λiT h28=>?_;exact aq.2 ⟨h28.1,h4.1⟩
def qP:List Part:=[Part.mk 1 0,Part.mk 1 1,Part.mk 5 0,Part.mk 5 1,Part.mk 6 0,Part.mk 9 0]
def abR:kD qP:=by
 refine⟨?_,λx hx=>?_⟩
 ·unfold mn qP;simp[pk]
 ·unfold qP at hx;simp only[cj,jT,kF]at hx;rcases hx with rfl|rfl|rfl|rfl|rfl|rfl<;>exact⟨by decide,by decide,by decide,by decide⟩
def amg(hs:Sr l a):Wp (Qf ⟨l,a⟩) λr=>Sr r.2.2.2.2.2.2.2.2.2.2.2.2.2.2.2.2.2.2.2.2.2.2.2.2.2.2.2.2.2.2.2.2.1 r.2.2.2.2.2.2.2.2.2.2.2.2.2.2.2.2.2.2.2.2.2.2.2.2.2.2.2.2.2.2.2.2.2.1∧rY ⟨r.2.2.2.2.2.2.1,r.2.2.2.2.2.2.2.2.2.2.2.2.2.2.2.2.2.2.2.2.2.2.2.2.2.2.2.2.2.2.2.2.2.2.2.2.2.2.2.2.2.2.2.2.1,r.2.2.2.2.2.2.2.2.2.2.2.2.2.2.2.2.2.2.2.2.2.2.2.2.2.2.2.2.2.2.2.2.2.2.2.2.2.2.2.2.2.2.2.2.2.1,r.2.2.2.2.2.2.2.2.2.2.2.2.2.2.2.2.2.2.2.2.2.2.2.2.2.2.2.2.2.2.2.2.2.2.2.2.2.2.2.2.2.2.2.2.2.2.1,r.2.2.2.2.2.2.2.1,r.2.2.2.2.2.2.2.2.1⟩∧vT ⟨r.2.2.2.2.2.2.2.2.2.1,r.2.2.2.2.2.2.2.2.2.2.1,r.2.2.2.2.2.2.2.2.2.2.2.1⟩∧xD ⟨r.2.2.2.2.1,r.2.2.2.2.2.1,r.2.2.2.2.2.2.2.2.2.2.2.2.2.2.2.2.2.2.2.2.2.2.2.2.2.2.2.2.2.2.2.2.2.2.2.2.2.2.2.2.2.2.2.1⟩∧zC ⟨r.2.2.2.2.2.2.2.2.2.2.2.2.2.2.2.2.2.2.2.2.2.2.2.2.2.2.2.2.2.2.2.2.2.2.2.2.2.2.2.2.2.2.2.2.2.2.2.1,r.2.2.2.2.2.2.2.2.2.2.2.2.2.2.2.2.2.2.2.2.2.2.2.2.2.2.2.2.2.2.2.2.2.2.2.2.2.2.2.2.2.2.2.2.2.2.2.2.1,r.2.2.2.2.2.2.2.2.2.2.2.2.2.2.2.2.2.2.2.2.2.2.2.2.2.2.2.2.2.2.2.2.2.2.2.2.2.2.2.2.2.2.2.2.2.2.2.2.2.1⟩∧r.2.2.2.2.2.2.2.2.2.2.2.2.2.2.2.2.2.2.2.2.2.2.2.2.2.2.2.2.2.2.2.2.2.2.2.2.2.2.2.2.2.2.2.2.2.2.2.1=qP:=by
 unfold Qf;refine(al3 hs).bind λx1 h1=>?_;obtain⟨hs,hv⟩:=h1;refine Wp.bind (Q:=λr=>∃l a br S,r=(l,a,2,1800,50,br,S)∧Sr l a∧cI (bd 2 br S [])∧br.length=3∧S.length=2∧∀x∈S,x.iE=100∧mM x) ?_ λx6 h6=>?_
 ·refine dy 2 (λk s=>∃l a br S,s=((k:Int),l,a,2,1800,50,br,S)∧Sr l a∧cI (bd 2 br S [])∧br.length=1+k∧S.length=k∧∀x∈S,x.iE=100∧mM x) ⟨_,_,[⟨1,0,1⟩],[],rfl,hs,cI.tie (br:=[]) (S:=[]) (C:=[]) ⟨λk hk=>absurd hk (by simp),λj hj=>absurd hj (by simp),λj hj=>absurd hj (by simp)⟩ (by omega) (by omega) (by omega),rfl,rfl,λx hx=>by cases hx⟩ ?_ ?_
  ·rintro k s hk ⟨l,a,br,S,rfl,hs,e1,e2,e3,e4⟩;unfold YC;simp only[dT (show(k:Int)<2 by omega),aH];rw[cJ (by simp;omega)];simp only[al];refine(ij hs (n:=3) (by omega) (by omega)).bind λy hy=>?_;rw[cJ (by simp;omega)];simp only[al];refine aq.2 ⟨_,_,br++[⟨2,(k:Int),(k:Int)⟩],S++[⟨100,0,y.1⟩],by rw[aY (by omega)],hy.2,?_,by simp;omega,by simp;omega,λx hx=>?_⟩
   ·have:=e1.src (a:=(k:Int)) (by omega) (by omega) ⟨100,0,y.1⟩;rwa[show len S=(k:Int) by unfold len;omega]at this
   ·rcases bg.1 hx with hx|hx
    ·exact e4 x hx
    ·rw[cY.1 hx];have:=hy.1;exact⟨rfl,⟨by show(1:Int)<=100;omega,by show(100:Int)<=50000;omega⟩,⟨by show(0:Int)<=0;omega,by show(0:Int)<=100;omega⟩,this.1,by show y.1<=600;omega⟩
  ·rintro s ⟨l,a,br,S,rfl,hs,e1,e2,e3,e4⟩;unfold YC;simp only[dF (show ¬((2:Nat):Int)<2 by omega),aC,aB];exact aq.2 ⟨l,a,br,S,rfl,hs,e1,by omega,e3,e4⟩
 obtain⟨l,a,br,S,rfl,hs,e1,e2,e3,e4⟩:=h6;simp only;obtain⟨mk,vG⟩:∃mk:List Int->Int->List b9->List cL->List Consumer->_,mk=λl a M br C=>(l,a,x1.1,x1.2.1,x1.2.2.1,x1.2.2.2.1,(30:Int),(30:Int),x1.2.2.2.2.2.2.1,x1.2.2.2.2.2.2.2.1,x1.2.2.2.2.2.2.2.2.1,x1.2.2.2.2.2.2.2.2.2.1,x1.2.2.2.2.2.2.2.2.2.2.1,x1.2.2.2.2.2.2.2.2.2.2.2.1,x1.2.2.2.2.2.2.2.2.2.2.2.2.1,x1.2.2.2.2.2.2.2.2.2.2.2.2.2.1,x1.2.2.2.2.2.2.2.2.2.2.2.2.2.2.1,x1.2.2.2.2.2.2.2.2.2.2.2.2.2.2.2.1,x1.2.2.2.2.2.2.2.2.2.2.2.2.2.2.2.2.1,x1.2.2.2.2.2.2.2.2.2.2.2.2.2.2.2.2.2.1,x1.2.2.2.2.2.2.2.2.2.2.2.2.2.2.2.2.2.2.1,x1.2.2.2.2.2.2.2.2.2.2.2.2.2.2.2.2.2.2.2.1,x1.2.2.2.2.2.2.2.2.2.2.2.2.2.2.2.2.2.2.2.2.1,x1.2.2.2.2.2.2.2.2.2.2.2.2.2.2.2.2.2.2.2.2.2.1,x1.2.2.2.2.2.2.2.2.2.2.2.2.2.2.2.2.2.2.2.2.2.2.1,x1.2.2.2.2.2.2.2.2.2.2.2.2.2.2.2.2.2.2.2.2.2.2.2.1,x1.2.2.2.2.2.2.2.2.2.2.2.2.2.2.2.2.2.2.2.2.2.2.2.2.1,x1.2.2.2.2.2.2.2.2.2.2.2.2.2.2.2.2.2.2.2.2.2.2.2.2.2.1,x1.2.2.2.2.2.2.2.2.2.2.2.2.2.2.2.2.2.2.2.2.2.2.2.2.2.2.1,x1.2.2.2.2.2.2.2.2.2.2.2.2.2.2.2.2.2.2.2.2.2.2.2.2.2.2.2.1,x1.2.2.2.2.2.2.2.2.2.2.2.2.2.2.2.2.2.2.2.2.2.2.2.2.2.2.2.2.1,x1.2.2.2.2.2.2.2.2.2.2.2.2.2.2.2.2.2.2.2.2.2.2.2.2.2.2.2.2.2.1,x1.2.2.2.2.2.2.2.2.2.2.2.2.2.2.2.2.2.2.2.2.2.2.2.2.2.2.2.2.2.2.1,x1.2.2.2.2.2.2.2.2.2.2.2.2.2.2.2.2.2.2.2.2.2.2.2.2.2.2.2.2.2.2.2.1,(2:Int),(1800:Int),(50:Int),M,br,C):=⟨_,rfl⟩;refine Wp.bind (Q:=λr=>∃l a M br C,r=mk l a M br C∧Sr l a∧cI (bd 2 br S C)∧br.length=7∧C.length=4∧(∀j,j<C.length->(gt C j).e_=20∧lQ (gt C j) j)∧M.length=4∧∀t∈M,uD t) ?_ λdx VO=>?_
 ·refine dy 4 (λk s=>∃l a M br C,s=((k:Int),mk l a M br C)∧Sr l a∧cI (bd 2 br S C)∧br.length=3+k∧C.length=k∧(∀j,j<C.length->(gt C j).e_=20∧lQ (gt C j) j)∧M.length=k∧∀t∈M,uD t) ⟨l,a,[],br,[],by subst vG;rfl,hs,e1,by omega,rfl,λj hj=>absurd hj (by simp),rfl,λx hx=>by cases hx⟩ ?_ ?_
  ·rintro k s hk ⟨l,a,M,br,C,rfl,hs,f1,f2,f3,f4,f5,f6⟩;subst vG;unfold YB;simp only[dT (show(k:Int)<4 by omega),aH];rw[SN (a:=(k:Int)) (by omega) (by omega)];simp only[al];rw[cJ (by simp;omega)];simp only[al];refine(dU hs (w:=[0,5,20]) (by simp) (by simp)).bind λbb rO=>?_;refine(ij rO.2 (n:=3) (by omega) (by omega)).bind λbi Ex=>?_;rw[cJ (by simp;omega)];simp only[al];rw[Ad (a:=(k:Int)) (by omega) (by omega) (by omega)];simp only[al];refine(dU Ex.2 (w:=[50,50,5]) (by simp) (by simp)).bind λcF NU=>?_;refine(dU NU.2 (w:=[1,2]) (by simp) (by simp)).bind λb7 NT=>?_;rw[cJ (by simp;omega)];simp only[al];have Fy:=rO.1;have Yh:=Ex.1;have a14:=NU.1;have a15:=NT.1;simp only[cj,jT,kF]at Fy a14 a15;refine aq.2 ⟨_,_,M++[⟨3,(k:Int)/2,40,cF.1,b7.1,[]⟩],br++[⟨3,(k:Int)% 2,(k:Int)⟩],C++[⟨20,bb.1,bi.1,(k:Int),[]⟩],by rw[aY (by omega)],NT.2,?_,by simp;omega,by simp;omega,λj hj=>?_,by simp;omega,λt ht=>?_⟩
   ·have:=f1.iY (a:=(k:Int)% 2) (by omega) (by omega) ⟨20,bb.1,bi.1,(k:Int),[]⟩;rwa[show len C=(k:Int) by unfold len;omega]at this
   ·rw[oN (by simpa using hj)];by_cases dt:j<C.length
    ·rw[aI dt];exact f4 j dt
    ·rw[aK dt];exact⟨rfl,λi hi=>absurd hi (by simp),⟨by show(0:Int)<=20;omega,by show(20:Int)<=50000;omega⟩,⟨by show 0<=bb.1;omega,by show bb.1<=20;omega⟩,⟨Yh.1,by show bi.1<=15;omega⟩,⟨by show(-1:Int)<=k;omega,by show(k:Int)<=7;omega⟩,by show(0:Nat)<=4;omega⟩
   ·rcases bg.1 ht with ht|ht
    ·exact f6 t ht
    ·rw[cY.1 ht];exact⟨⟨⟨⟨by show(1:Int)<=3;omega,by show(3:Int)<=3;omega⟩,⟨by show 0<=(k:Int)/2;omega,by show(k:Int)/2<=1;omega⟩,⟨by show(0:Int)<=40;omega,by show(40:Int)<=5000;omega⟩,⟨by show 0<=cF.1;omega,by show cF.1<=5000;omega⟩,by show 1<=b7.1;omega,by show b7.1<=100;omega⟩,by show(0:Nat)<=4;omega⟩,λx hx=>by cases hx⟩
  ·rintro s ⟨l,a,M,br,C,rfl,hs,f1,f2,f3,f4,f5,f6⟩;subst vG;unfold YB;simp only[dF (show ¬((4:Nat):Int)<4 by omega),aC,aB];exact aq.2 ⟨l,a,M,br,C,rfl,hs,f1,by omega,f3,f4,f5,f6⟩
 obtain⟨l,a,M,br,C,rfl,hs,f1,f2,f3,f4,f5,f6⟩:=VO;subst vG;simp only;refine(ZX hs (P:=qP) (by simp[qP])).bind λcZ VN=>?_;obtain⟨hs,q1,q2,q3⟩:=VN;rw[q1];refine(ZZ hs (P:=qP) (by simp[qP])).bind λdQ h19=>?_;obtain⟨hs,g1,g2⟩:=h19;refine aq.2 ⟨hs,?_,hv,?_,?_,g1⟩
 ·exact⟨⟨by show(1:Int)<=2;omega,by show(2:Int)<=4;omega⟩,by show br.length<=18;omega,by show S.length<=4;omega,by show C.length<=5;omega,⟨⟨λk hk=>f1.1 k hk,f1.2.1,f1.2.2⟩,⟨by show(0:Int)<=1800;omega,by show(1800:Int)<=1800;omega⟩,⟨by show(0:Int)<=50;omega,by show(50:Int)<=6000;omega⟩,λk hk=>(e4 _ (cX hk)).2,λk hk=>(f4 k hk).2⟩,λx hx=>by have hx:x∈S:=hx;have:=(e4 x hx).1;omega,λx hx=>by have hx:x∈C:=hx;obtain⟨j,hj,rfl⟩:=lC hx;have:=(f4 j hj).1;omega⟩
 ·exact⟨⟨⟨by show(0:Int)<=30;omega,by show(30:Int)<=200;omega⟩,by show(1:Int)<=30;omega,by show(30:Int)<=200;omega⟩,by show M.length<=8;omega,λi hi=>f6 _ (cX hi)⟩
 ·refine⟨?_,?_,q2,?_,?_⟩
  ·simp only[g1];simp[qP]
  ·simp only[g1];exact abR
  ·simp only[g1];exact q3
  ·simp only[g1];exact g2
end
end Rx
namespace Rx
open Classical
section
variable {b:au} {q:aw} {tm:Int} {R:List eH} {E:List Event}
def aDr(hl:gy b)(k:Int):bsize b k<=24:=by
 have:=hl.jp;have:=hl.di;have:=hl.src;have:=hl.iY;unfold bsize;split
 ·omega
 ·split
  ·omega
  ·split
   ·omega
   ·split<;>omega
def aDs{k:Int}(h:1<=bsize b k):1<=k∧k<=4:=by
 unfold bsize at h;by_cases h1:k=1
 ·omega
 by_cases h2:k=2
 ·omega
 by_cases h3:k=3
 ·omega
 by_cases h4:k=4
 ·omega
 rw[aK h1,aK h2,aK h3,aK h4]at h;omega
def aku(h:bo b q=0):kD q.aP:=by
 obtain⟨⟨hl,hg⟩,_,⟨hB,_⟩,_⟩:=fi.1 h;have hv:∀k,k<q.aP.length->VP (gt q.aP k):=λk hk=>by obtain⟨⟨h1,h2⟩,_⟩:=hB k hk;have h3:=aDr hl (gt q.aP k).Kind;have h4:=aDs (b:=b) (k:=(gt q.aP k).Kind) (by omega);exact⟨h4.1,by omega,h1,by omega⟩
 have aS:∀j i,i<j->j<q.aP.length->pk (gt q.aP i)<pk (gt q.aP j):=by
  intro j;induction j with
  |zero=>intro i hi;omega
  |succ j ih=>
   intro i hi hj;have h1:=(hB (j+1) hj).2 (by omega);rw[F2]at h1;have v1:=hv j (by omega);have v2:=hv (j+1) hj;have h2:pk (gt q.aP j)<pk (gt q.aP (j+1)):=by obtain⟨_,_,a1,a2⟩:=v1;obtain⟨_,_,c1,c2⟩:=v2;unfold before at h1;unfold pk;omega
   by_cases iC:i=j
   ·rw[iC];exact h2
   ·have:=ih i (by omega) (by omega);omega
 refine⟨Ck.2 λi j hi hj iC=>?_,λx hx=>?_⟩
 ·rw[<-fQ hi,<-fQ hj];exact aS j i iC hj
 ·obtain⟨k,hk,rfl⟩:=lC hx;exact hv k hk
structure Yj(v:gK):Prop where
 gen:rY v.au
 tab:vT v.gL
 Lv:xD v.dG
 zb:zC v.b_
 vn:v.b_.eI=qP
def Kt(v:gK)(hv:Yj v)(h:bo v.au q=0)(hn:q.aP.length<=4):Fz (q.aP++qP) v.b_:=by
 refine⟨by rw[cW];show q.aP.length+6<=12;omega,λx hx=>?_,λx hx=>?_,by have:=hv.zb.ln;omega⟩
 ·rcases bg.1 hx with hx|hx
  ·exact(aku h).2 x hx
  ·exact abR.2 x hx
 ·have:=(hv.zb.TJ.1 x hx).1.2;rw[hv.vn]at this;exact bg.2 (.inr this)
def amP{A l:List Int}(hA:A.length<=1000)(hl:l.length<=1000)(h:∀i,i<A.length->0<=gt A i∧gt A i<=5000):Wp (O8 A l) λr=>r.length=A.length∧∀i,i<A.length->0<=gt r i∧gt r i<=5000:=by
 unfold O8 u6;rw[cJ (by simp;omega)];simp only[al,o7];refine Wp.bind (Q:=λr:List Int=>r.length=A.length∧∀i,i<A.length->0<=gt r i∧gt r i<=5000) ?_ λr hr=>aq.2 hr;refine dy l.length (λk s=>∃r,s=((k:Int),r)∧r.length=A.length∧∀i,i<A.length->0<=gt r i∧gt r i<=5000) ⟨A,rfl,rfl,h⟩ ?_ ?_
 ·rintro k s hk ⟨r,rfl,h1,h2⟩;unfold W8;simp only[aZ hk,aH,aM hk,al];refine Wp.bind (Q:=λc=>c=ab->0<=gt l k∧gt l k<(r.length:Int)) ?_ λc hc=>?_
  ·refine Wp.ite (λh1=>aq.2 λh2=>?_) λ_=>aq.2 λh=>by cases h
   exact⟨jJ h1,jJ h2⟩
  ·refine Wp.bind (Q:=λr:List Int=>r.length=A.length∧∀i,i<A.length->0<=gt r i∧gt r i<=5000) ?_ λr hr=>aq.2 ⟨r,by rw[aY (by omega)],hr⟩;refine Wp.ite (λhh=>?_) λ_=>aq.2 ⟨h1,h2⟩;obtain⟨c0,c1⟩:=hc hh;simp only[iI c0 c1,Sw c0 c1,al];refine aq.2 ⟨by simpa using h1,λi hi=>?_⟩;rw[gV (by omega)];split
   ·omega
   ·exact h2 i hi
 ·rintro s ⟨r,rfl,h1,h2⟩;unfold W8;simp only[bC,aC,aB];exact aq.2 ⟨h1,h2⟩
def Kh{v:gK}(hv:Yj v)(g:Gd v.au q)(hn:q.aP.length<=4)(t0:0<=tm)(t1:tm<=20)(hR:JP v.au tm R){l:List Part}(hl:l.length<=1)(hm:∀x∈l,x∈qP):Wp (xu v ⟨tm,q,R,[]⟩ [] l) λr=>r.2.1=0∧r.2.2.2.2.2.2.2.2.length=v.dG.c_.length∧∀i,i<v.dG.c_.length->0<=gt r.2.2.2.2.2.2.2.2 i∧gt r.2.2.2.2.2.2.2.2 i<=5000:=by
 have hb:=hv.gen.sm;have pM:=hv.gen.jp;have hRl:=hR.1;have hU:=Kt v hv g.1.2 hn;unfold xu;simp only[arb hb hv.tab g t0 (by omega) hR,E4 hv.zb,al,kG,aC,aB];rw[af0 (by simp) (by simp;omega)];simp only[al,nE,List.flatten_nil,o7,pb];refine(Rf (E4 hv.zb) hU (by rw[cW];omega) λx hx=>?_).bind λF hF=>?_
 ·rcases bg.1 hx with hx|hx
  ·exact bg.2 (.inl hx)
  ·exact bg.2 (.inr (hm x hx))
 have hFl:=hF.1;refine Wp.bind (Q:=λr=>∃L q' E',r= .inl (L,0,tm,q'.aE,q'.aj,q'.aT,q'.aP,R,E')∧Gd v.au q'∧L.length<=12∧E'.length<=13000000) ?_ λr hr=>?_
 ·refine dy F.length (λk s=>∃L q' E',s=((k:Int),L,0,tm,q'.aE,q'.aj,q'.aT,q'.aP,R,E')∧Gd v.au q'∧L.length<=k∧E'.length<=1000001*k) ⟨[],q,[],rfl,g,bw _,jS _⟩ ?_ ?_
  ·rintro k s hk ⟨L,q',E',rfl,g',h1,h2⟩;unfold WM;simp only[aZ hk,aH,aM hk,al];refine Wp.bind (Q:=λr=>∃L q' E',r= .inl (L,0,tm,q'.aE,q'.aj,q'.aT,q'.aP,R,E')∧Gd v.au q'∧L.length<=k+1∧E'.length<=1000001*(k+1)) ?_ λr hr=>?_
   ·refine Wp.bind (Q:=λL:List Int=>L.length<=k+1) ?_ λL hL=>?_
    ·refine Wp.ite (λ_=>?_) λ_=>aq.2 (by omega);rw[cJ (by simp;omega)];exact aq.2 (by simp;omega)
    refine Wp.bind (Q:=λ_=>True) ?_ λc _=>?_
    ·refine Wp.ite (λ_=>aq.2 trivial) λ_=>?_;rw[Bu (by have:=(fi.1 g.1.2).2.2.1.2;omega)];exact aq.2 trivial
    refine Wp.ite (λ_=>aq.2 ⟨L,q',E',rfl,g',hL,lR h2 (by rw[Nat.mul_succ];exact Nat.le_add_right _ _)⟩) λ_=>?_;refine(amk (R:=R) (E:=E') hb g' t0 (by omega) (by omega) (by omega) rfl).bind λr hr=>?_;obtain⟨q2,E2,z,rfl,g2,e2⟩:=hr;simp only[kG,aC,aB];exact aq.2 ⟨L,q2,E2,rfl,g2,hL,lR e2 (by rw[Nat.mul_succ];exact Nat.add_le_add_right h2 _)⟩
   ·obtain⟨L,q2,E2,rfl,g2,e1,e2⟩:=hr;exact aq.2 ⟨L,q2,E2,by rw[aY (by omega)],g2,e1,e2⟩
  ·rintro s ⟨L,q',E',rfl,g',h1,h2⟩;unfold WM;simp only[bC,aC,aB];exact aq.2 ⟨L,q',E',rfl,g',by omega,by omega⟩
 obtain⟨L,q',E',rfl,g',h1,h2⟩:=hr;simp only[bx];refine(amM (p:=q') hb g'.1 hv.Lv).bind λA hA=>?_;have h8:=hv.Lv.2.1;rw[hA.1];simp only[kG,aC,aB];rw[ay' g'.1.1 (by omega) (by omega)];simp only[al];refine(amP (A:=A.2) (l:=L) (by have:=hA.2.1;omega) (by omega) λi hi=>hA.2.2 i (by have:=hA.2.1;omega)).bind λr hr=>?_;exact aq.2 ⟨rfl,by show r.length=_;rw[hr.1];exact hA.2.1,λi hi=>hr.2 i (by have:=hA.2.1;omega)⟩
end
end Rx
namespace Rx
open Classical
section
def Rb{l:List Int}(hl:l.length<=1000)(a c:Int):Wp (rV l a c) λr=>r=ab->∀i,i<l.length->a<=gt l i∧gt l i<=c:=by
 unfold rV Lc KM;refine Wp.bind (Q:=λr:Bool=>r=ae->∀i,i<l.length->a<=gt l i∧gt l i<=c) ?_ λr hr=>aq.2 λh=>hr (by simpa using h);refine Wp.bind (Q:=λr:Int=>r<0->∀i,i<l.length->a<=gt l i∧gt l i<=c) ?_ λr hr=>aq.2 λh=>hr (by have:=mR h;omega);refine Wp.bind (Q:=λr:Unit⊕Int=>(∃k:Nat,r= .inr (k:Int))∨(r= .inl ()∧∀i,i<l.length->a<=gt l i∧gt l i<=c)) ?_ λr hr=>?_
 ·refine dy l.length (λk s=>s=(k:Int)∧∀i,i<k->a<=gt l i∧gt l i<=c) ⟨rfl,λi hi=>by omega⟩ ?_ ?_
  ·rintro k s hk ⟨rfl,h⟩;unfold zX P2;simp only[aZ hk,aH,aM hk,al];by_cases h1:gt l k<a
   ·simp only[dT h1,aH,al];exact aq.2 (.inl ⟨k,rfl⟩)
   ·simp only[dF h1,aC,aB,al];refine Wp.ite (λ_=>aq.2 (.inl ⟨k,rfl⟩)) λh2=>aq.2 ⟨by rw[aY (by omega)],λi hi=>?_⟩;have h2:¬gt l k>c:=mR h2;by_cases dV:i=k
    ·rw[dV];omega
    ·exact h i (by omega)
  ·rintro s ⟨rfl,h⟩;unfold zX;simp only[bC,aC,aB];exact aq.2 (.inr ⟨rfl,h⟩)
 ·rcases hr with⟨k,rfl⟩|⟨rfl,h⟩
  ·exact aq.2 λh=>by omega
  ·exact aq.2 λ_=>h
def al9{x:dG}(h:xD x)(f:ft):Wp (P4 x f) λr=>r.2.2.2=0->(-500000<=r.1∧r.1<=500000)∧(-500000<=r.2.1∧r.2.1<=500000)∧-500000<=r.2.2.1∧r.2.2.1<=500000:=by
 unfold P4;rw[O3 h];simp only[al,kG,aC,aB];refine Wp.bind (Q:=λc=>c=ae-> -5000<=f.ee∧f.ee<=5000) ?_ λc hc=>?_
 ·refine(Rb (l:=[f.ee,f.gw]) (by simp) (-5000) 5000).bind λc hc=>?_;refine Wp.ite (λ_=>aq.2 λh=>by cases h) λhh=>?_;refine(Rb (l:=[f.ig]) (by simp) (-500000) 500000).bind λc2 _=>aq.2 λ_=>?_;have:=hc (by simpa using hh) 0 (by simp);exact this
 refine Wp.ite (λ_=>aq.2 λh=>by cases h) λhh=>?_;refine(alr _ _).bind λy _=>?_;refine(Rb (l:=[y.1,W (f.gw-y.1)]) (by simp) (-500000) 500000).bind λc2 h2=>?_;refine Wp.ite (λ_=>aq.2 λh=>by cases h) λh3=>aq.2 λ_=>?_;have h4:=h2 (by simpa using h3);have h5:=hc hh;exact⟨by simp only;omega,h4 0 (by simp),h4 1 (by simp)⟩
def aq3(a:Int){l:List Int}(hl:l.length<=1000):Wp (Mf a l) λr=>(∀i,i<l.length->W (-a)<=gt l i∧gt l i<=a)->r=ab:=by
 unfold Mf;refine Wp.bind (Q:=λr=>((∀i,i<l.length->W (-a)<=gt l i∧gt l i<=a)->r= .inl ())) ?_ λr hr=>?_
 ·refine dy l.length (λk s=>s=(k:Int)) rfl ?_ ?_
  ·rintro k s hk rfl;unfold SY;simp only[aZ hk,aH,aM hk,al];by_cases h1:gt l k<W (-a)
   ·simp only[dT h1,aH,al];exact aq.2 λh=>by have:=h k hk;omega
   ·simp only[dF h1,aC,aB,al];refine Wp.ite (λh2=>aq.2 λh=>?_) λ_=>aq.2 (by rw[aY (by omega)]);have:=h k hk;have:=jJ h2;omega
  ·rintro s rfl;unfold SY;simp only[bC,aC,aB];exact aq.2 λ_=>rfl
 ·cases r with
  |inl u=>exact aq.2 λ_=>rfl
  |inr c=>exact aq.2 λh=>by have:=hr h;cases this
def aag(f:ft):Wp (I7 f) λr=>((-1000000<=f.ee∧f.ee<=1000000)∧(-1000000<=f.gw∧f.gw<=1000000)∧-1000000<=f.ig∧f.ig<=1000000)->r=ab:=by
 unfold I7;refine(aq3 1000000 (l:=[f.ee,f.gw,f.ig]) (by simp)).bind λr hr=>aq.2 λh=>hr λi hi=>?_;rw[show W (-1000000)= -1000000 from bX (by omega) (by omega)];match i,hi with
 |0,_=>exact h.1
 |1,_=>exact h.2.1
 |2,_=>exact h.2.2
def AbL(x:dG)(A:List Int):Prop:=A.length=x.c_.length∧∀i,i<x.c_.length->0<=gt A i∧gt A i<=5000
def ZW{x:dG}(h:xD x){A:List Int}(hA:AbL x A)(f:ft):Wp (E8 x A f) λ_=>True:=by
 unfold E8;refine Wp.bind (Q:=λ_=>True) ?_ λr _=>?_
 ·unfold W9 W_;refine Wp.bind (Q:=λr=>r.2.2.2=0->(-500000<=r.1∧r.1<=500000)∧(-500000<=r.2.1∧r.2.1<=500000)∧-500000<=r.2.2.1∧r.2.2.1<=500000) ?_ λr hr=>?_
  ·refine(aag f).bind λc _=>?_;refine Wp.ite (λ_=>aq.2 λh=>by cases h) λ_=>?_;unfold W7 I8;simp only[al];exact(al9 h _).bind λy hy=>aq.2 hy
  ·refine Wp.ite (λ_=>aq.2 trivial) λhe=>?_;have hd:=hr (by simpa using he);refine(amK h (A:=A) (d:=⟨r.1,r.2.1,r.2.2.1⟩) hA.1 (λi hi=>hA.2 i (by have:=hA.1;omega)) hd.1 hd.2.1 hd.2.2).bind λy _=>?_;exact Wp.ite (λ_=>aq.2 trivial) λ_=>aq.2 trivial
 ·refine Wp.bind (Q:=λ_=>True) ?_ λ_ _=>aq.2 trivial;exact Wp.ite (λ_=>aq.2 trivial) λ_=>aq.2 trivial
def aq4(n:Int):Wp (Mg n 100) λ_=>True:=by unfold Mg nJ lA;rw[aK (by omega),aK (by omega)];simp only[al];refine Wp.bind (Q:=λ_=>True) ?_ λ_ _=>aq.2 trivial;exact Wp.ite (λ_=>aq.2 trivial) λ_=>aq.2 trivial
def S7(x n:Int):Wp (E7 x n) λ_=>True:=by unfold E7 SZ;refine Wp.bind (Q:=λ_=>True) ?_ λ_ _=>aq.2 trivial;refine(aq4 _).bind λy _=>?_;refine Wp.bind (Q:=λ_=>True) ?_ λ_ _=>aq.2 trivial;exact Wp.ite (λ_=>aq.2 trivial) λ_=>aq.2 trivial
def ard(f:ft)(n:Int):Wp (O9 f n) λ_=>True:=by
 unfold O9;refine Wp.bind (Q:=λ_=>True) ?_ λc _=>?_
 ·refine(aag f).bind λc _=>?_;refine Wp.ite (λ_=>aq.2 trivial) λ_=>?_;exact Wp.ite (λ_=>aq.2 trivial) λ_=>aq.2 trivial
 refine Wp.ite (λ_=>aq.2 trivial) λ_=>?_;unfold W6;refine Wp.bind (Q:=λ_=>True) ?_ λ_ _=>aq.2 trivial;exact(S7 _ _).bind λ_ _=>(S7 _ _).bind λ_ _=>(S7 _ _).bind λ_ _=>aq.2 trivial
variable {q:aw} {tm:Int} {R:List eH} {f:ft} {v:gK}
def Hi:qP.length=6:=rfl
def zz(v:gK)(p:cH)(f:ft)(x:Part)(h:Bool):Prop:=∃r,xu v p [] [x]=aa r∧r.2.1=0∧E8 v.dG r.2.2.2.2.2.2.2.2 f=aa h
structure tx(v:gK)(q:aw)(tm:Int)(R:List eH):Prop where
 vo:Yj v
 g:Gd v.au q
 n:q.aP.length<=4
 t0:0<=tm
 t1:tm<=20
 r:JP v.au tm R
def amq(h:tx v q tm R){x:Part}(hx:x∈qP):Wp (EX v ⟨tm,q,R,[]⟩ [] [x] f) λb=>zz v ⟨tm,q,R,[]⟩ f x b:=by obtain⟨r,hr,h1,h2⟩:=Kh (l:=[x]) h.vo h.g h.n h.t0 h.t1 h.r (by simp) (λy hy=>by rw[cY.1 hy];exact hx);obtain⟨m,hm,_⟩:=ZW h.vo.Lv (A:=r.2.2.2.2.2.2.2.2) h2 f;unfold EX;rw[hr];simp only[al,h1,QG,aH,hm];exact aq.2 ⟨r,hr,h1,hm⟩
def amm(h:tx v q tm R):Wp (vY v.b_ ⟨tm,q,R,[]⟩ []) λN=>N.length<=12:=by have hq:=aku h.g.1.2;have hn:=h.n;unfold vY;rw[al4 (show q.aP.length<=12 by omega) hq.2 hq.1];simp only[al];exact(Rf (E4 h.vo.zb) (Kt v h.vo h.g.1.2 h.n) (show q.aP.length<=1000 by omega) λx hx=>bg.2 (.inl hx)).bind λr hr=>aq.2 hr.1
def Fnd(v:gK)(p:cH)(f:ft)(N:List Part)(k:Nat)(l:List iy):Prop:=l.length<=k∧(∀x∈l,x.Part∈qP∧zz v p f x.Part x.Cf)∧∀i,i<k->gt qP i∉N->∃x∈l,x.Part=gt qP i
def Z0(h:tx v q tm R){N:List Part}(hN:vY v.b_ ⟨tm,q,R,[]⟩ []=aa N)(hl:N.length<=12):Wp (EY v ⟨tm,q,R,[]⟩ [] f) λl=>Fnd v ⟨tm,q,R,[]⟩ f N 6 l:=by
 have hP:=h.vo.vn;unfold EY;rw[hN];simp only[al];refine dy qP.length (λk s=>∃l,s=((k:Int),l)∧Fnd v ⟨tm,q,R,[]⟩ f N k l) ⟨[],rfl,bw _,(λx hx=>by cases hx),λi hi=>by omega⟩ ?_ ?_ (by decide)
 ·rintro k s hk ⟨l,rfl,h1,h2,h3⟩;unfold WJ;rw[hP];simp only[aZ hk,aH,aM hk,al,Bu (show N.length<=1000000 by omega)];refine Wp.ite (λhh=>?_) λhh=>aq.2 ⟨l,by rw[aY (by have:=Hi;omega)],by omega,h2,λi hi hn=>?_⟩
  ·refine(amq h (cX hk)).bind λm hm=>?_;refine aq.2 ⟨l++[⟨gt qP k,m⟩],by rw[aY (by have:=Hi;omega)]<;>rfl,by simp;omega,λx hx=>?_,λi hi hn=>?_⟩
   ·rcases bg.1 hx with hx|hx
    ·exact h2 x hx
    ·rw[cY.1 hx];exact⟨cX hk,hm⟩
   ·by_cases dV:i=k
    ·exact⟨⟨gt qP k,m⟩,bg.2 (.inr (cY.2 rfl)),by rw[dV]⟩
    ·obtain⟨x,e1,e2⟩:=h3 i (by omega) hn;exact⟨x,bg.2 (.inl e1),e2⟩
  ·by_cases dV:i=k
   ·rw[dV]at hn;rw[fH hn]at hh;cases hh
   ·exact h3 i (by omega) hn
 ·rintro s ⟨l,rfl,h1⟩;unfold WJ;rw[hP];simp only[bC,aC,aB];exact aq.2 h1
def amJ(h:tx v q tm R){N:List Part}(hN:vY v.b_ ⟨tm,q,R,[]⟩ []=aa N)(hl:N.length<=12):Wp (I2 v ⟨tm,q,R,[]⟩ [] f) λr=>r.1=0∧r.2.length<=6∧∀x∈r.2,x.Part∈qP:=by
 have e:I2 v ⟨tm,q,R,[]⟩ [] f=pW (xu v ⟨tm,q,R,[]⟩ [] []) λx1=>if(x1.2.1 !=0)=ab then aa (x1.2.1,[])else pW (Lr v ⟨tm,q,R,[]⟩ [] f) λx3=>aa (0,x3):=by unfold I2 I0;rfl
 rw[e];refine(Kh (l:=[]) h.vo h.g h.n h.t0 h.t1 h.r (by simp) (λy hy=>by cases hy)).bind λr hr=>?_;rw[hr.1];simp only[kG,aC,aB];refine Wp.bind (Q:=λr:List iy=>r.length<=6∧∀x∈r,x.Part∈qP) ?_ λr hr=>aq.2 ⟨rfl,hr⟩;unfold Lr Se;refine Wp.bind (Q:=λr:List iy=>r.length<=6∧∀x∈r,x.Part∈qP) ?_ λr hr=>aq.2 hr;refine(Z0 h hN hl).bind λl hl=>?_;refine Wp.bind (Q:=λr:List iy=>r=l) ?_ λr hr=>by rw[hr];exact aq.2 ⟨hl.1,λx hx=>(hl.2.1 x hx).1⟩
 refine pn (λs=>s.2.length) (λs=>s.1++s.2=l) (λs hs=>?_) (o7 l) (by have:=hl.1;simp only;omega);obtain⟨s1,s2⟩:=s;simp only at hs;unfold aaW;cases s2 with
 |nil=>exact aq.2 (by simpa using hs)
 |cons x s2=>
  have hlen:(s1++x::s2).length=l.length:=by rw[hs]
  simp only[cW,jd]at hlen;have h6:=hl.1;try simp only
  rw[cJ (by simp;omega)];exact aq.2 ⟨by simpa using hs,by simp⟩
def amb(h:tx v q tm R){N:List Part}(hN:vY v.b_ ⟨tm,q,R,[]⟩ []=aa N)(hl:N.length<=12):Wp (I1 v ⟨tm,q,R,[]⟩ [] f) λs=>s=ab->∀y∈qP,y∉N->zz v ⟨tm,q,R,[]⟩ f y ab:=by
 unfold I1 WK EX;obtain⟨r,hr,h1,h2⟩:=Kh (l:=[]) h.vo h.g h.n h.t0 h.t1 h.r (by simp) (λy hy=>by cases hy);obtain⟨m,hm,_⟩:=ZW h.vo.Lv (A:=r.2.2.2.2.2.2.2.2) h2 f;rw[hr];simp only[al,h1,QG,aH,hm];refine Wp.ite (λ_=>aq.2 λe=>by cases e) λ_=>?_;have e:OX v ⟨tm,q,R,[]⟩ [] f=pW (EY v ⟨tm,q,R,[]⟩ [] f) λx2=>pW (aG WI ((0,0,ae),x2)) λx7=>Sum.elim (λx8=>aa (0,0,ae)) aa x7:=by unfold OX I0;rfl
 rw[e];refine Wp.bind (Q:=λr=>r.2.2=ae->∀y∈qP,y∉N->zz v ⟨tm,q,R,[]⟩ f y ab) ?_ λr hr=>aq.2 λe=>hr (by simpa using e);refine(Z0 h hN hl).bind λl hl=>?_;refine Wp.bind (Q:=λr=>r.elim (λ_=>∀x∈l,x.Cf=ab) λr=>r.2.2=ab) ?_ λr hr=>?_
 ·refine pn (λs=>s.2.length) (λs=>∃l1,l1++s.2=l∧∀x∈l1,x.Cf=ab) (λs hs=>?_) ⟨[],rfl,λx hx=>by cases hx⟩ (by have:=hl.1;simp only;omega);obtain⟨s1,s2⟩:=s;obtain⟨l1,e1,e2⟩:=hs;simp only at e1;unfold WI;cases s2 with
  |nil=>exact aq.2 (by rw[<-e1,pb];exact e2)
  |cons x s2=>
   try simp only
   refine Wp.ite (λ_=>aq.2 rfl) λhh=>aq.2 ⟨⟨l1++[x],by rw[<-e1];simp,λy hy=>?_⟩,by simp⟩;rcases bg.1 hy with hy|hy
   ·exact e2 y hy
   ·rw[cY.1 hy];simpa using hh
 ·cases r with
  |inl u=>refine aq.2 λ_ y hy hn=>?_;obtain⟨i,hi,rfl⟩:=lC hy;obtain⟨x,e1,e2⟩:=hl.2.2 i hi hn;have:=(hl.2.1 x e1).2;rw[e2,hr x e1]at this;exact this
  |inr r=>exact aq.2 λe=>by have hr:r.2.2=ab:=hr;rw[hr]at e;cases e
end
end Rx
namespace Rx
open Classical
section
variable {d:b_} {t:Part}
def fk(x:Int×Int×Int):Part:=⟨x.1,x.2.1⟩
def MJ{m:List (Int×Int×Int)}(p:Part):sG (λx=>x.1==p.Kind&&x.2.1==p.Number) m=dB (p∈m.map fk):=by
 unfold sG;by_cases h:p∈m.map fk
 ·rw[fG h,List.any_eq_true];obtain⟨x,hx,rfl⟩:=dk.1 h;exact⟨x,hx,by simp[fk]⟩
 ·rw[fH h,List.any_eq_false];intro x hx hq;simp only[bt,sf]at hq;exact h (dk.2 ⟨x,hx,by unfold fk;rw[hq.1,hq.2]⟩)
def ace:∀{m:List (Int×Int×Int)},(m.map fk).Nodup->∀{x y},x∈m->y∈m->fk x=fk y->x=y
 |[],_,_,_,h,_,_=>by cases h
 |z::m,h,x,y,hx,hy,e=>by
  obtain⟨h1,h2⟩:=List.nodup_cons.1 h;rcases cj.1 hx with a1|a1<;>rcases cj.1 hy with a2|a2
  ·rw[a1,a2]
  ·exact(h1 (by rw[<-a1,e];exact List.mem_map_of_mem a2)).elim
  ·exact(h1 (by rw[<-a2,<-e];exact List.mem_map_of_mem a1)).elim
  ·exact ace h2 a1 a2 e
def MK{m:List (Int×Int×Int)}(h:(m.map fk).Nodup){y:Int×Int×Int}(hy:y∈m){p:Part}(hp:fk y=p):ry (λx=>x.1==p.Kind&&x.2.1==p.Number) (λx=>x.2.2) 0 m=y.2.2:=by
 unfold ry;cases hf:m.find? (λx=>x.1==p.Kind&&x.2.1==p.Number)with
 |none=>have:=sh.1 hf y hy;subst hp;simp[fk]at this
 |some x=>
  have h1:=uJ hf;have h2:=zE hf;simp only[bt,sf]at h2;have e:fk x=fk y:=by rw[hp];unfold fk;rw[h2.1,h2.2]
  rw[ace h h1 hy e]
def acm{m:List (Int×Int×Int)}{p:Part}(n:Int)(hp:p∉m.map fk):tP (λx=>x.1==p.Kind&&x.2.1==p.Number) (p.Kind,p.Number,n) m=m++[(p.Kind,p.Number,n)]:=by have:=MJ (m:=m) p;rw[fH hp]at this;unfold sG at this;unfold tP;rw[this];rfl
structure JZ(d:b_)(t:Part)(m:List (Int×Int×Int)):Prop where
 nd:(m.map fk).Nodup
 mm:∀x∈m,(x.2.2=0∧fk x=t)∨(0<x.2.2∧∃k∈d.cw,k.cu=fk x∧∃y∈m,fk y=k.To∧y.2.2+1=x.2.2)
 bd:∀x∈m,0<=x.2.2∧x.2.2<m.length
def JZ.snoc{m:List (Int×Int×Int)}(h:JZ d t m){k:fI}(hk:k∈d.cw){y:Int×Int×Int}(hy:y∈m)(e:fk y=k.To)(hn:k.cu∉m.map fk):JZ d t (m++[(k.cu.Kind,k.cu.Number,y.2.2+1)]):=by
 have hb:=h.bd y hy;refine⟨?_,λx hx=>?_,λx hx=>?_⟩
 ·rw[mS,gC,List.map_nil];refine List.nodup_append.2 ⟨h.nd,by simp,λa ha b hb=>?_⟩;rw[cY.1 hb];intro e;exact hn (by rw[e]at ha;exact ha)
 ·rcases bg.1 hx with hx|hx
  ·rcases h.mm x hx with h1|⟨h1,k',h2,h3,z,h4,h5⟩
   ·exact .inl h1
   ·exact .inr ⟨h1,k',h2,h3,z,bg.2 (.inl h4),h5⟩
  ·rw[cY.1 hx];exact .inr ⟨by simp only;omega,k,hk,rfl,y,bg.2 (.inl hy),e,rfl⟩
 ·rw[cW,xJ];rcases bg.1 hx with hx|hx
  ·have:=h.bd x hx;omega
  ·rw[cY.1 hx];simp only;omega
structure xF(d:b_)(t:Part)(m:List (Int×Int×Int))(Q:List Part):Prop where
 xt:JZ d t m
 t:t∈m.map fk
 q:∀x∈Q,x∈m.map fk
 p:∀x∈m.map fk,x∈qP
 c:∀k∈d.cw,k.To∈m.map fk->k.To∈Q∨k.cu∈m.map fk
def xF.len{m:List (Int×Int×Int)}{Q:List Part}(h:xF d t m Q):m.length<=6:=by have:=Ax h.xt.nd h.p;rwa[pZ]at this
def ayX(lH:d.cw.length<=20)(hf:∀k∈d.cw,k.cu∈qP){p:Part}{Q:List Part}{m:List (Int×Int×Int)}(hQ:Q.length<=100)(h:xF d t m (p::Q)):Wp (aG (OF d) (0,p::Q,m)) λr=>∃Q' m',r=(p::Q',m')∧xF d t m' (p::Q')∧(∀k∈d.cw,k.To=p->k.cu∈m'.map fk)∧(Q.length<=Q'.length∧Q'.length+m.length=Q.length+m'.length):=by
 refine dy d.cw.length (λi s=>∃Q' m',s=((i:Int),p::Q',m')∧xF d t m' (p::Q')∧(∀j,j<i->(gt d.cw j).To=p->(gt d.cw j).cu∈m'.map fk)∧(Q.length<=Q'.length∧Q'.length+m.length=Q.length+m'.length)) ⟨Q,m,rfl,h,λj hj=>by omega,bw _,rfl⟩ ?_ ?_
 ·rintro i s hi ⟨Q',m',rfl,h1,h2,h3⟩;have xd:=h1.len;have H8:=cX hi;unfold OF;simp only[aZ hi,aH,aM hi,al];rw[show idx (p::Q') 0=aa p from rfl];simp only[al,MJ];by_cases hp:(gt d.cw i).To=p
  ·rw[show((gt d.cw i).To.Kind==p.Kind&&(gt d.cw i).To.Number==p.Number)=ab from y6.2 hp];simp only[aH,al];by_cases hk:(gt d.cw i).cu∈m'.map fk
   ·rw[fG hk];simp only[dP,aC,aB,al];refine aq.2 ⟨Q',m',by rw[aY (by omega)],h1,λj hj e=>?_,h3⟩;by_cases eV:j=i
    ·rw[eV];exact hk
    ·exact h2 j (by omega) e
   ·rw[fH hk];obtain⟨y,hy,hyp⟩:=dk.1 (h1.q p kI);have hb:=h1.xt.bd y hy;simp only[Bool.not_false,aH,MK h1.xt.nd hy hyp];rw[cJ (by simp;omega),bX (x:=y.2.2+1) (by omega) (by omega),acm _ hk];simp only[al];have gI:∀x,x∈m'.map fk->x∈(m'++[((gt d.cw i).cu.Kind,(gt d.cw i).cu.Number,y.2.2+1)]).map fk:=λx hx=>by rw[mS];exact bg.2 (.inl hx)
    have xc:(gt d.cw i).cu∈(m'++[((gt d.cw i).cu.Kind,(gt d.cw i).cu.Number,y.2.2+1)]).map fk:=by rw[mS];exact bg.2 (.inr (cY.2 rfl))
    refine aq.2 ⟨Q'++[(gt d.cw i).cu],_,by rw[aY (by omega)];rfl,⟨h1.xt.snoc H8 hy (hyp.trans hp.symm) hk,gI _ h1.t,λx hx=>?_,λx hx=>?_,λk oL ht=>?_⟩,λj hj e=>?_,by simp only[cW,xJ];omega⟩
    ·rcases bg.1 (show x∈(p::Q')++[(gt d.cw i).cu]from hx)with hx|hx
     ·exact gI _ (h1.q x hx)
     ·rw[cY.1 hx];exact xc
    ·rw[mS]at hx;rcases bg.1 hx with hx|hx
     ·exact h1.p x hx
     ·rw[cY.1 hx];exact hf _ H8
    ·rw[mS]at ht;rcases bg.1 ht with ht|ht
     ·rcases h1.c k oL ht with h4|h4
      ·exact .inl (bg.2 (.inl h4):k.To∈(p::Q')++[(gt d.cw i).cu])
      ·exact .inr (gI _ h4)
     ·exact .inl (bg.2 (.inr ht):k.To∈(p::Q')++[(gt d.cw i).cu])
    ·by_cases eV:j=i
     ·rw[eV];exact xc
     ·exact gI _ (h2 j (by omega) e)
  ·rw[show((gt d.cw i).To.Kind==p.Kind&&(gt d.cw i).To.Number==p.Number)=ae from N8 hp];simp only[aC,aB,al];refine aq.2 ⟨Q',m',by rw[aY (by omega)],h1,λj hj e=>?_,h3⟩;by_cases eV:j=i
   ·rw[eV]at e;exact(hp e).elim
   ·exact h2 j (by omega) e
 ·rintro s ⟨Q',m',rfl,h1,h2,h3⟩;unfold OF;simp only[bC,aC,aB];refine aq.2 ⟨Q',m',rfl,h1,λk hk e=>?_,h3⟩;obtain⟨j,hj,rfl⟩:=lC hk;exact h2 j hj e
def amB(lH:d.cw.length<=20)(hf:∀k∈d.cw,k.cu∈qP)(ht:t∈qP):Wp (OG d t) λm=>xF d t m []:=by
 unfold OG;rw[acm (m:=[]) 0 (by simp)];refine Wp.bind (Q:=λm=>xF d t m []) ?_ λm hm=>aq.2 hm;have h0:xF d t ([]++[(t.Kind,t.Number,0)]) [t]:=by
  refine⟨⟨by simp,λx hx=>?_,λx hx=>?_⟩,by simp[fk],λx hx=>?_,λx hx=>?_,λk hk hx=>?_⟩
  ·rw[cY.1 hx];exact .inl ⟨rfl,rfl⟩
  ·rw[cY.1 hx];simp
  ·rw[cY.1 hx];simp[fk]
  ·rw[cY.1 hx];exact ht
  ·exact .inl hx
 refine pn (λs=>(12-s.2.length)*2+s.1.length) (λs=>xF d t s.2 s.1∧(12-s.2.length)*2+s.1.length<=60) (λs hs=>?_) ⟨h0,by simp⟩ (by simp);obtain⟨Q,m⟩:=s;obtain⟨h1,h2⟩:=hs;simp only at h1 h2;unfold afP;cases Q with
 |nil=>exact aq.2 h1
 |cons p Q=>
  simp only[jd]at h2;simp only[dT (show len (p::Q)>0 by unfold len;simp only[jd];omega),aH];refine(ayX lH hf (show Q.length<=100 by omega) h1).bind λr hr=>?_;obtain⟨Q',m',rfl,e1,e2,e3⟩:=hr;have ni:=h1.len;have ud:=e1.len;simp only;rw[show dH (p::Q') 1 (len (p::Q'))=aa Q' from Lt (n:=1) (by simp)];refine aq.2 ⟨⟨⟨e1.xt,e1.t,λx hx=>e1.q x (eR _ hx),e1.p,λk hk hx=>?_⟩,by simp only;omega⟩,by simp only[jd];omega⟩;rcases e1.c k hk hx with h|h
  ·rcases cj.1 h with h|h
   ·exact .inr (e2 k hk h)
   ·exact .inl h
  ·exact .inr h
def JT(d:b_)(l:List Part):Prop:=∀i,i+1<l.length->(⟨gt l i,gt l (i+1)⟩:fI)∈d.cw
def JT.snoc{l:List Part}(h:JT d l){p:Part}(hn:l≠[])(hp:(⟨gt l (l.length-1),p⟩:fI)∈d.cw):JT d (l++[p]):=by
 intro i hi;rw[cW,xJ]at hi;rw[oN (by omega),oN (by omega),aI (by omega)];by_cases h1:i+1<l.length
 ·rw[aI h1];exact h i h1
 ·rw[aK h1,show i=l.length-1 by omega];exact hp
def azy(lH:d.cw.length<=20){m:List (Int×Int×Int)}(h:JZ d t m){x6:Int×List Part×Int×Int}{y:Int×Int×Int}(hy:y∈m)(h0:0<y.2.2)(hm:m.length<=6)(e:x6.1=y.2.2):Wp (aG (Ww d m x6) (0,y.1,y.2.1)) λr=>∃z∈m,fk z=⟨r.1,r.2⟩∧z.2.2+1=y.2.2∧(⟨fk y,⟨r.1,r.2⟩⟩:fI)∈d.cw:=by
 obtain⟨k,hk,k1,z,hz,z1,z2⟩:∃k∈d.cw,k.cu=fk y∧∃z∈m,fk z=k.To∧z.2.2+1=y.2.2:=by
  rcases h.mm y hy with⟨h1,_⟩|⟨_,h1⟩
  ·omega
  ·exact h1
 obtain⟨j,hj,rfl⟩:=lC hk;have hb:=h.bd y hy;refine dy d.cw.length (λi s=>i<=j∧s=((i:Int),y.1,y.2.1)) ⟨jS _,rfl⟩ ?_ ?_
 ·rintro i s hi ⟨iC,rfl⟩;unfold Ww;simp only[aZ hi,aH,aM hi,al,MJ,e,bX (x:=y.2.2-1) (by omega) (by omega)];by_cases hg:(gt d.cw i).cu=fk y∧∃z∈m,fk z=(gt d.cw i).To∧z.2.2+1=y.2.2
  ·obtain⟨g1,z,g2,g3,g4⟩:=hg;rw[show((gt d.cw i).cu.Kind==y.1&&(gt d.cw i).cu.Number==y.2.1)=ab from y6.2 g1,fG (dk.2 ⟨z,g2,g3⟩),MK h.nd g2 g3,show(z.2.2==y.2.2-1)=ab from by rw[sf];omega];simp only[aH,al];refine aq.2 ⟨z,g2,g3,g4,?_⟩;rw[<-g1];exact cX hi
  ·have bM:i≠j:=λhh=>hg (by rw[hh];exact⟨k1,z,hz,z1,z2⟩);refine Wp.bind (Q:=λc=>c=ae) ?_ λc hc=>?_
   ·refine Wp.ite (λhf=>?_) λ_=>aq.2 rfl;by_cases ht:(gt d.cw i).To∈m.map fk
    ·rw[fG ht,aI rfl];obtain⟨w,hw,w1⟩:=dk.1 ht;rw[MK h.nd hw w1];refine aq.2 ?_;cases hq:(w.2.2==y.2.2-1)with
     |false=>rfl
     |true=>rw[sf]at hq;exact(hg ⟨y6.1 hf,w,hw,w1,by omega⟩).elim
    ·rw[fH ht,aK (by decide)];exact aq.2 rfl
   ·rw[hc,aK (by decide)];exact aq.2 ⟨by omega,by rw[aY (by omega)]⟩
 ·rintro s ⟨iC,rfl⟩;omega
def awj{L:List fI}(hl:L.length<=20){x:fI}(hx:x∈L):La L x=aa ab:=by
 obtain⟨j,hj,rfl⟩:=lC hx;have h:Wp (aG (RP L (gt L j)) 0) λr=>∃k:Nat,r= .inr (k:Int):=by
  refine dy L.length (λk s=>s=(k:Int)∧k<=j) ⟨rfl,jS _⟩ (λk s hk hv=>?_) (λs hv=>?_) (by omega)
  ·obtain⟨rfl,hv⟩:=hv;unfold RP;simp only[aZ hk,aH,aM hk,al];refine Wp.ite (λ_=>aq.2 ⟨k,rfl⟩) λhh=>aq.2 ⟨by rw[aY (by omega)],?_⟩;have:k≠j:=λe=>by rw[e]at hh;simp at hh
   omega
  ·obtain⟨rfl,hv⟩:=hv;omega
 obtain⟨r,hr,k,rfl⟩:=h;unfold La RQ;rw[hr];simp only[al,bE,dT (c:=(k:Int)>=0) (by omega)]
def amE(hd:zC d)(hP:d.eI=qP){x q:Part}(hx:x∈qP)(hq:q∈qP)(hr:∀G:Part->Prop,G x->(∀k∈d.cw,G k.cu->G k.To)->G q):Wp (OP d x q) λr=>r.1=ab∧OM d r.2=aa ab:=by
 have hc:=E4 hd;have lH:=hd.ln;unfold OP;simp only[hc,hP,Bu (show qP.length<=1000000 by decide),fG hx,fG hq,al,kG,dP,aC,aB];refine(amB lH (λk hk=>by have:=(hd.TJ.1 k hk).1.1;rwa[hP]at this) hq).bind λm hm=>?_;have xd:=hm.len;have hxm:x∈m.map fk:=by
  refine gD λhn=>hr (λy=>y∉m.map fk) hn (λk hk hf ht=>?_) hm.t;rcases hm.c k hk ht with h|h
  ·cases h
  ·exact hf h
 rw[MJ,fG hxm];simp only[dP,aC,aB];obtain⟨y,hy,rfl⟩:=dk.1 hxm;have hb:=hm.xt.bd y hy;rw[MK hm.xt.nd hy rfl];refine Wp.bind (Q:=λl:List Part=>(l≠[]∧l.length<=7∧gt l 0=fk y)∧JT d l) ?_ λl hl=>aq.2 ⟨rfl,?_⟩
 ·refine pn (λs=>s.1.toNat) (λs=>∃z∈m,s.1=z.2.2∧s.2.2=(z.1,z.2.1)∧(s.2.1≠[]∧s.2.1.length+z.2.2.toNat<=7∧gt s.2.1 0=fk y)∧gt s.2.1 (s.2.1.length-1)=fk z∧JT d s.2.1) (λs hs=>?_) ⟨y,hy,rfl,rfl,⟨by simp,by simp;omega,rfl⟩,rfl,λi hi=>by simp at hi⟩ (by simp only;omega);obtain⟨s1,s2,s3⟩:=s;obtain⟨z,hz,e1,e2,⟨e3,e4,e5⟩,e6,e7⟩:=hs;simp only at e1 e2 e3 e4 e5 e6 e7;subst e1;subst e2;have hzb:=hm.xt.bd z hz;unfold afQ;by_cases h0:0<z.2.2
  ·simp only[dT h0,aH];refine(azy lH hm.xt hz h0 xd rfl).bind λr hr=>?_;obtain⟨w,hw,w1,w2,w3⟩:=hr;rw[cJ (by simp;omega),bX (x:=z.2.2-1) (by omega) (by omega)];have rD:r=(w.1,w.2.1):=by unfold fk at w1;simp only[Part.mk.injEq]at w1;rw[w1.1,w1.2]
   have oI:0<s2.length:=xK.2 e3;refine aq.2 ⟨⟨w,hw,by simp only;omega,rD,⟨by simp,by simp;omega,?_⟩,?_,e7.snoc e3 (by rw[e6];exact w3)⟩,by simp only;omega⟩
   ·show gt (s2++[_]) 0=_;rw[oN (by omega),aI oI];exact e5
   ·show gt (s2++[_]) ((s2++[_]).length-1)=_;rw[cW,xJ,F2,oN (by omega),aK (by omega)];exact w1.symm
  ·simp only[dF h0,aC,aB];exact aq.2 ⟨⟨e3,by omega,e5⟩,e7⟩
 ·obtain⟨⟨l1,l2,l3⟩,l4⟩:=hl;have oI:0<l.length:=xK.2 l1;unfold OM;simp only[hc,hP,al,kG,aC,aB];rw[show(len l==0)=ae from by unfold len;rw[beq_eq_false_iff_ne];omega,show idx l 0=aa (gt l 0)from aM (k:=0) oI];simp only[aC,aB,al,l3,Bu (show qP.length<=1000000 by decide),fG hx,dP];have e:aG (OL d l) 1=aa (.inl ()):=dR (λk=>((k+1:Nat):Int)) (l.length-1) (λk hk=>by
   unfold OL;simp only[aZ (show k+1<l.length by omega),aH,nv (k:=k+1) (by omega) (by omega),F2,aM (show k<l.length by omega),aM (show k+1<l.length by omega),al,awj lH (l4 k (by omega)),dP,aC,aB];rw[aY (by omega)]) (by
   unfold OL;rw[show l.length-1+1=l.length by omega];simp only[bC,aC,aB])
  rw[e];rfl
def awk{l:List Part}(hl:l.length<=1000)(p:Part):Oe l p=aa (dB (p∈l)):=by
 have h:Wp (aG (Od l p) 0) λr=>(p∈l∧r= .inr ab)∨(p∉l∧r= .inl ()):=by
  refine dy l.length (λk s=>s=(k:Int)∧∀i,i<k->gt l i≠p) ⟨rfl,λi hi=>by omega⟩ (λk s hk hv=>?_) (λs hv=>?_) (by omega)
  ·obtain⟨rfl,hv⟩:=hv;unfold Od;simp only[aZ hk,aH,aM hk,al];refine Wp.ite (λhq=>aq.2 (.inl ⟨by rw[<-show gt l k=p from y6.1 hq];exact cX hk,rfl⟩)) λhq=>aq.2 ⟨by rw[aY (by omega)],λi hi he=>?_⟩;by_cases dV:i=k
   ·rw[dV]at he;have:=y6.2 he;unfold IH at this;rw[this]at hq;cases hq
   ·exact hv i (by omega) he
  ·obtain⟨rfl,hv⟩:=hv;unfold Od;simp only[bC,aC,aB];refine aq.2 (.inr ⟨λhp=>?_,rfl⟩);obtain⟨i,hi,he⟩:=lC hp;exact hv i hi he
 obtain⟨r,hr,h⟩:=h;unfold Oe;rw[hr];rcases h with⟨hp,rfl⟩|⟨hp,rfl⟩
 ·rw[fG hp];rfl
 ·rw[fH hp];rfl
def asb{F l:List Part}(hF:F.length<=1000)(hl:l.length<=1000):Wp (Lj l F) λ_=>True:=by
 unfold Lj RZ;refine Wp.bind (Q:=λ_=>True) ?_ λ_ _=>aq.2 trivial;refine Wp.bind (Q:=λ_=>True) ?_ λr _=>by cases r<;>exact aq.2 trivial
 refine dy l.length (λk s=>s=(k:Int)) rfl (λk s hk hv=>?_) (λs hv=>?_)
 ·subst hv;unfold RY Wv;simp only[aZ hk,aH,aM hk,al,Bu (show F.length<=1000000 by omega)];exact Wp.ite (λ_=>aq.2 trivial) λ_=>aq.2 (by rw[aY (by omega)])
 ·subst hv;unfold RY;simp only[bC,aC,aB];exact aq.2 trivial
def Z5(hd:zC d)(hP:d.eI=qP){F:List Part}(hF:F.length<=1000){a:Int}(h0:0<=a)(h1:a<d.gb.length):Wp (IV a d F) λ_=>True:=by obtain⟨n,n3,gl,hg⟩:=hd.VS;have hp:=hd.vn;have h2:=(hg a.toNat (by omega)).2;have h3:=Ax (h2.2 hp).1.nodup h2.1.2;rw[hP,Hi]at h3;unfold IV;rw[iI h0 h1];simp only[al];exact(asb hF (by omega)).bind λ_ _=>aq.2 trivial
def amC(hd:zC d)(hP:d.eI=qP){U:List Part}(hU:Fz U d)(hq:∀x∈qP,x∈U)(a b:Int):Wp (OO d a b) λr=>r.length<=6∧∀x∈r,x∈qP:=by
 have Il:=E4 hd;unfold OO;simp only[Il,al,kG,aC,aB];refine Wp.bind (Q:=λc=>c=ae->(0<=a∧a<d.gb.length)∧0<=b∧b<d.gb.length) ?_ λc hc=>?_
 ·refine Wp.ite (λ_=>aq.2 λe=>by cases e) λh1=>?_;refine Wp.ite (λ_=>aq.2 λe=>by cases e) λh2=>?_;refine Wp.ite (λ_=>aq.2 λe=>by cases e) λh3=>?_;refine Wp.ite (λ_=>aq.2 λe=>by cases e) λh4=>aq.2 λ_=>?_;have h1:=mR h1;have h2:=mR h2;have h3:=mR h3;have h4:=mR h4;unfold len at h2 h4;omega
 refine Wp.ite (λ_=>aq.2 ⟨by simp,λx hx=>by cases hx⟩) λhh=>?_;obtain⟨⟨a0,a1⟩,b0,b1⟩:=hc hh;refine Wp.bind (Q:=λr:List Part=>r.length<=6∧∀x∈r,x∈qP) ?_ λr hr=>aq.2 hr;refine dy qP.length (λk s=>∃r,s=((k:Int),r)∧r.length<=k∧∀x∈r,x∈qP) ⟨[],rfl,bw _,λx hx=>by cases hx⟩ ?_ ?_ (by decide)
 ·rintro k s hk ⟨r,rfl,h1,h2⟩;unfold Wu;have h6:=Hi;rw[hP];simp only[aZ hk,aH,aM hk,al];refine(Rf Il hU (l:=[gt qP k]) (by simp) λx hx=>by rw[cY.1 hx];exact hq _ (cX hk)).bind λF hF=>?_;have hFl:=hF.1;refine Wp.bind (Q:=λ_=>True) ?_ λc _=>?_
  ·refine(Z5 hd hP (by omega) a0 a1).bind λc _=>Wp.ite (λ_=>?_) λ_=>aq.2 trivial;exact(Z5 hd hP (by omega) b0 b1).bind λ_ _=>aq.2 trivial
  refine Wp.bind (Q:=λr:List Part=>r.length<=k+1∧∀x∈r,x∈qP) ?_ λr hr=>aq.2 ⟨r,by rw[aY (by omega)],hr⟩;refine Wp.ite (λ_=>?_) λ_=>aq.2 ⟨by omega,h2⟩;rw[cJ (by simp;omega)];refine aq.2 ⟨by simp;omega,λx hx=>?_⟩;rcases bg.1 hx with hx|hx
  ·exact h2 x hx
  ·rw[cY.1 hx];exact cX hk
 ·rintro s ⟨r,rfl,h1,h2⟩;unfold Wu;rw[hP];simp only[bC,aC,aB];exact aq.2 ⟨by rw[Hi]at h1;exact h1,h2⟩
