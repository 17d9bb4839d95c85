import Derived.Test.YtmngjhagbjgmfaaGreatRk
import Derived.Lib.ConvBytes
import Derived.Laws.BytesString
import Derived.Laws.Cover3
set_option linter.all false
open Go renaming Operand->a_,TypeId->aY,Value->ah
open List renaming flatten_cons->oZ,length_map->q8,map_cons->gz
open Nat renaming le_refl->bx
open Option renaming none->ak,some->aa
namespace Go.Proofs.YtmngjhagbjgmfaaGreat
open Go Go.RowKit Dp
namespace Rx
section
variable {D:Nat->Type} [∀n,ad (D n)]
variable {P:Program} {T:bc D} {Qx:Exit->Act->World->Prop} {U:Nat->Prop} {ar:Nat} {γ:Gh D} {w:World} {sl:List (Nat×AV D)} {L:List (Nat×ah)} {ob:List (Nat×Option (AO D))}
 {d:Option Tmp} {ty:aY} {pos:String} {af:Array Edge} {gd:Option (Nat×Bool)} {e:cY D} {l:List Nat}
def OW.arE [Rd]{t:aY}{s:ByteArray}{o:a_}(hu:P.underlying t=aa .string)(hx:ev L o=aa (.string s)):
  OW P Qx L ⟨d,.call {callee:= .builtin .len,args:= #[o],argTypes:= #[t]},ty,pos,af,gd⟩ w (λv' w'=>v'= .int .i64 (rh s)∧w'=w):=by
 refine OW.run λa ha=>⟨_,w,?_,rfl,rfl⟩
 simp[execOp,resolve,invoke,builtin,Builtin.len_,run_underlying hu,ha _ _ hx,goInt,rh]
def OW.asw [Rd]{t:aY}{s:ByteArray}{x i:a_}{j c:Int}{ki:IntKind}(hu:P.underlying t=aa .string)(hx:ev L x=aa (.string s))(hi:ev L i=aa (.int ki j))(hc:KR s j=aa c):
  OW P Qx L ⟨d,.index t x i,ty,pos,af,gd⟩ w (λv' w'=>v'= .int .u8 c∧w'=w):=by
 refine OW.run λa ha=>⟨_,w,?_,rfl,rfl⟩
 unfold KR at hc
 split at hc
 case isFalse=>cases hc
 rename_i h0
 split at hc
 case h_2=>cases hc
 rename_i b hb
 cases hc
 have iC:s[j.toNat]? =aa b:=hb
 simp[execOp,Instr.index,asIntOf,run_underlying hu,ha _ _ hx,ha _ _ hi,h0,iC]
def aqM [Rd]{t te t2:aY}(hu:P.underlying t=aa (.slice te))(hx:Cx U ar γ w sl L ob){op:BinOp}{x y:a_}{n:Nat}{xs:List (D n)}{K:List Nat}{g:Nat}{p:Bool}(ha:eT sl x=aa (.c (.one (.vb n xs K g p))))(hb:eT sl y=aa (.c (.one .bF)))
  (h:Q.R ob (match op with| .eql=>bY (bv p (ar+16))| .neq=>bY (bv (EY p) (ar+16))|_=>Q.fail) l e):
  OW P Qx L ⟨d,.binOp op t x y t2,ty,pos,af,gd⟩ w (λv w'=>∃γ',dR U ar γ w ob e γ' v w'):=by
 obtain⟨u,h1,h2⟩:=cA hx.sr ha
 obtain⟨v,h3,h4⟩:=cA hx.sr hb
 have h4:v= .slice ak 0 0:=h4
 subst h4
 obtain⟨q,cap,rfl,_⟩:=u0 h2.1.1
 have hp:p=Tb (.slice q xs.length cap):=h2.2
 have hr:=run_equal_slice_nil (P:=P) w t te q xs.length cap hu
 have hq:q.isNone=p:=by rw[hp];cases q<;>rfl
 rw[hq]at hr
 have he:(binOp .eql t (.slice q xs.length cap) (.slice ak 0 0)).run P w= .ok (.bool p) w:=by simp only[binOp,Sem.run_bind,hr,Result.andThen,Sem.run_pure]
 have hn:(binOp .neq t (.slice q xs.length cap) (.slice ak 0 0)).run P w= .ok (.bool (!p)) w:=by simp only[binOp,Sem.run_bind,hr,Result.andThen,Sem.run_pure]
 split at h
 ·obtain⟨_,rfl⟩:=h;exact dm (OW.pN h1 h3 (by simp[eqGuard]) he) (eo hx rfl)
 ·obtain⟨_,rfl⟩:=h;exact dm (OW.pN h1 h3 (by simp[eqGuard]) hn) (eo hx rfl)
 ·exact(h:False).elim
def arb{n:Nat}(h:T.lv n=[.int .u8])(x:D n):T.out n x=[⟨.int .u8,tJ T n h x⟩]:=by unfold bc.out tJ;generalize T.Dd n x=y;revert y h;generalize T.lv n=l;intro h;subst h;intro y;rfl
def alO(hR:cF T){n:Nat}(h:T.lv n=[.int .u8])(b:Int):tJ T n h (Di T n h b)=b:=by
 unfold tJ Di;rw[hR.LX];have:∀(l:List Lf) (e:l=[.int .u8]) (y:HL D [.int .u8]),(e▸(e.symm▸y:HL D l):HL D [.int .u8])=y:=by intro l e y;subst e;rfl
 exact this _ h b
def aaL(hR:cF T){n:Nat}(h:T.lv n=[.int .u8]){S:Nat->Prop}{cs:List ah}{x:D n}:ad.rd S w cs x↔cs=[.int .u8 (tJ T n h x)]:=by
 rw[hR.rd,arb h];constructor
 ·intro h;match cs,h with
  |[v],h=>rw[show v= .int .u8 _ from h.1]
  |[],h=>exact h.elim
  |_::_::_,h=>exact h.2.elim
 ·rintro rfl;exact⟨rfl,trivial⟩
def aBW [Rd](hR:cF T)(hx:Cx U ar γ w sl L ob){s t te:aY}{n:Nat}{o:a_}{x:ByteArray}{xs:List (D n)}(hs:P.underlying s=aa .string)(ht:P.underlying t=aa (.slice te))(hte:P.underlying te=aa (.int .u8))(nL:T.lv n=[.int .u8])
  (h1:ev L o=aa (.string x)) (eH:KS (Di T n nL) x=aa xs):
  OW P Qx L ⟨d,.convert s t o,ty,pos,af,gd⟩ w (λv w'=>∃γ',dR U ar γ w ob ⟨.c (.one (.v (.sl n) xs [1] (ar+16))),[],[]⟩ γ' v w'):=by
 unfold KS at eH
 split at eH
 case isFalse=>cases eH
 rename_i eM
 cases eH
 refine OW.run λa ha=>⟨.slice (aa ⟨w.heap.size,0,ak⟩) x.size (grownCap w x.size 0 te),Lib.bytesWorld w te x,by simp only[execOp,ha _ _ h1,Sem.run_bind,Lib.run_convert_string_bytes w s t te x hs ht hte,Result.andThen,Sem.run_pure],?_⟩
 have b7:bP [] [ar] γ.o w (grow γ.o w ar) (Lib.bytesWorld w te x):=by refine⟨rfl,rfl,rfl,?_,λb hb=>by simp[grow,hb],λb h1 _=>by simp[grow,Nat.not_lt.2 h1],λb hb _=>Lib.bytesWorld_at_old w te x b hb⟩;rw[Lib.bytesWorld_size];omega
 have sL:=grownCap_ge w x.size 0 te
 have hle:=grownCap_le_maxLen w x.size 0 te (by unfold maxLen;omega)
 have DJ:∀{i:Nat},U i->i≠ar:=λhi h=>hx.fresh ar (bx _) (by omega) (h▸hi)
 have hlen:x.data.toList.length=x.size:=by rw[Array.length_toList];rfl
 have hrv:Rv (In (λb=>rel [(ar,1)] (grow γ.o w ar b)) [1]) (Lib.bytesWorld w te x) (.slice (aa ⟨w.heap.size,0,ak⟩) x.size (grownCap w x.size 0 te)) ((x.data.toList.map λb=>Di T n nL (b.toNat:Int)):List (D n)):=by
  refine⟨[_],rfl,aa ⟨w.heap.size,0,ak⟩,_,by rw[q8,hlen],by rw[q8,hlen];exact sL,hle,.inr ⟨_,x.data.toList.map λb=>[ah.int .u8 (b.toNat:Int)],rfl,?_,?_,?_⟩⟩
  ·show rel [(ar,1)] (grow γ.o w ar w.heap.size)∈[1];rw[sR _ _ _ _ (bx _)];simp[rel,aF]
  ·induction x.data.toList with
   |nil=>trivial
   |cons b l ih=>exact⟨(aaL hR nL).2 (by rw[alO hR]),ih⟩
  ·intro j u hj;have eJ:∀(l:List UInt8),(l.map λb=>[ah.int .u8 (b.toNat:Int)]).flatten=l.map λb=>ah.int .u8 (b.toNat:Int):=by
    intro l;induction l with
    |nil=>rfl
    |cons b l ih=>simp only[gz,oZ,ih];rfl
   rw[eJ,List.getElem?_map]at hj;cases hb:x.data.toList[j]? with
   |none=>rw[hb]at hj;cases hj
   |some b=>
    rw[hb]at hj;cases hj;have dj:j<x.size:=by rw[<-hlen];exact(List.getElem?_eq_some_iff.1 hb).1
    have:=Lib.bytesWorld_cell w te x j dj;rw[show(Addr.mk w.heap.size 0 ak).add j=⟨w.heap.size,j,ak⟩from by simp[Addr.add];try omega,this];simp[List.getD,hb]
 refine⟨_,mkPost (M:=[]) (N:=[ar]) (ps:=[(ar,1)]) (g':=γ.g) (v':=gh γ.v (ar+16) [⟨.sl n,x.data.toList.map λb=>Di T n nL (b.toNat:Int)⟩]) hx.ob b7 (by simp) (by simp) ?_ hx.cJ (λ_ _=>rfl) (λi hi=>sw hx (by simp) hi) ?_ (λj x hj=>by simp[aF]at hj)⟩
 ·intro p hp;simp only[List.mem_singleton]at hp;subst hp;exact⟨hx.cJ,λh=>(DJ h rfl).elim,.inl rfl⟩
 ·exact⟨hrv,mx (γ:=γ) (i:=0) rfl (by omega) rfl,λx hx=>by simp at hx;omega⟩
def anE [Rd](hR:cF T)(hx:Cx U ar γ w sl L ob){s t se:aY}{n:Nat}{o:a_}{xs:List (D n)}{v:ah}{S:Nat->Prop}(hs:P.underlying s=aa (.slice se))(hse:P.underlying se=aa (.int .u8))(ht:P.underlying t=aa .string)(nL:T.lv n=[.int .u8])
  (h1:ev L o=aa v) (hv:fD S w v xs):
  OW P Qx L ⟨d,.convert s t o,ty,pos,af,gd⟩ w (λv w'=>∃γ',dR U ar γ w ob ⟨.c (.one (.v .str (xp (tJ T n nL) xs) [] (ar+16))),[],[]⟩ γ' v w'):=by
 obtain⟨p,cap,rfl,w_⟩:=hv
 have hb:∀(q:Option Addr) (h0:xs=[]),(Conv.bytesToString (.slice q xs.length cap)).run P w= .ok (.string (xp (tJ T n nL) xs)) w:=by
  intro q h0;subst h0;cases q with
  |none=>simp[Conv.bytesToString,xp,Sem.run_pure]
  |some a=>exact run_bytesToString w a 0 cap [] (by simp[loadCells,loadCellsFrom])
 have hc:(Conv.bytesToString (.slice p xs.length cap)).run P w= .ok (.string (xp (tJ T n nL) xs)) w:=by
  rcases w_ with h0|⟨a,aK,rfl,hr,um⟩
  ·exact hb p h0
  ·have eJ:∀{aK:List (List ah)} {xs:List (D n)},cp (ad.rd S w) aK xs->aK.flatten=(xs.map (tJ T n nL)).map (ah.int .u8):=by
    intro aK;induction aK with
    |nil=>intro xs h;cases xs with
     |nil=>rfl
     |cons _ _=>exact h.elim
    |cons c aK ih=>intro xs h;cases xs with
     |nil=>exact h.elim
     |cons x xs=>have h1:=(aaL hR nL).1 h.1;subst h1;simp only[oZ,ih h.2,gz];rfl
   have eJ:=eJ hr;have hl:=run_loadCells_list (P:=P) w a aK.flatten um;rw[eJ]at hl;simp only[q8]at hl;exact run_bytesToString w a xs.length cap _ hl
 refine dm (v:= .string (xp (tJ T n nL) xs)) (OW.run λa ha=>⟨_,w,?_,rfl,rfl⟩) (eo hx rfl)
 simp only[execOp,ha _ _ h1,Sem.run_bind,run_convert_bytes_string w s t se p xs.length cap hs hse ht,hc,Result.andThen,Sem.run_pure]
