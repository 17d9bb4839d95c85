import Derived.Test.YtncbfgppjfcijaaGreatRk
import Derived.Lib.ConvBytes
import Derived.Laws.BytesString
import Derived.Laws.Cover3
set_option linter.unusedVariables false
set_option linter.unusedSimpArgs false
set_option linter.unusedSectionVars false
open List renaming flatten_cons→arn,length_map→ar0,map_cons→arb
open Nat renaming le_refl→aqM
namespace Go.Proofs.YtncbfgppjfcijaaGreat
open Go Go.RowKit Dp
namespace Rx
section
variable {D:Nat→Type} [∀n,ab (D n)]
variable {P:Program} {T:aV D} {Qx:Exit→Act→World→Prop} {U:Nat→Prop} {ah:Nat} {γ:Gh D} {w:World} {sl:List (Nat×AV D)} {L:List (Nat×Value)} {ob:List (Nat×Option (AO D))}
 {d:Option Tmp} {ty:TypeId} {pos:String} {af:Array Edge} {gd:Option (Nat×Bool)} {e:bT D} {l:List Nat}
theorem OW.afU [Rd]{t:TypeId}{s:ByteArray}{o:Operand}(hu:P.underlying t=some .string)(hx:ev L o=some (.string s)):
  OW P Qx L ⟨d,.call {callee:= .builtin .len,args:= #[o],argTypes:= #[t]},ty,pos,af,gd⟩ w (fun v' w'=>v'= .int .i64 (Kc s)∧w'=w):=by
 refine OW.run fun a ha=>⟨_,w, ?_,rfl,rfl⟩
 simp[execOp,resolve,invoke,builtin,Builtin.len_,run_underlying hu,ha _ _ hx,goInt,Kc]
theorem OW.agG [Rd]{t:TypeId}{s:ByteArray}{x i:Operand}{j c:Int}(hu:P.underlying t=some .string)(hx:ev L x=some (.string s))(hi:ev L i=some (.int .i64 j))(hc:Kd s j=some c):
  OW P Qx L ⟨d,.index t x i,ty,pos,af,gd⟩ w (fun v' w'=>v'= .int .u8 c∧w'=w):=by
 refine OW.run fun a ha=>⟨_,w, ?_,rfl,rfl⟩
 unfold Kd at hc
 split at hc
 case isFalse=>cases hc
 rename_i h0
 split at hc
 case h_2=>cases hc
 rename_i b hb
 cases hc
 have dY:s[j.toNat]? =some b:=hb
 simp[execOp,Instr.index,asIntOf,run_underlying hu,ha _ _ hx,ha _ _ hi,h0,dY]
theorem afb [Rd]{t te t2:TypeId}(hu:P.underlying t=some (.slice te))(hx:Cx U ah γ w sl L ob){op:BinOp}{x y:Operand}{n:Nat}{xs:List (D n)}{K:List Nat}{g:Nat}{p:Bool}(ha:dm sl x=some (.c (.one (.vb n xs K g p))))(hb:dm sl y=some (.c (.one .bi)))
  (h:Q.R ob (match op with| .eql=>bo (bv p (ah+16))| .neq=>bo (bv (y8 p) (ah+16))|_=>Q.fail) l e):
  OW P Qx L ⟨d,.binOp op t x y t2,ty,pos,af,gd⟩ w (fun v w'=>∃γ',cJ U ah γ w ob e γ' v w'):=by
 obtain⟨u,h1,h2⟩:=bJ hx.sr ha
 obtain⟨v,h3,h4⟩:=bJ hx.sr hb
 have h4:v= .slice none 0 0:=h4
 subst h4
 obtain⟨q,cap,rfl,_⟩:=om h2.1.1
 have hp:p=LF (.slice q xs.length cap):=h2.2
 have hr:=run_equal_slice_nil (P:=P) w t te q xs.length cap hu
 have hq:q.isNone=p:=by rw[hp];cases q<;>rfl
 rw[hq] at hr
 have he:(binOp .eql t (.slice q xs.length cap) (.slice none 0 0)).run P w= .ok (.bool p) w:=by
  simp only[binOp,Sem.run_bind,hr,Result.andThen,Sem.run_pure]
 have hn:(binOp .neq t (.slice q xs.length cap) (.slice none 0 0)).run P w= .ok (.bool (!p)) w:=by
  simp only[binOp,Sem.run_bind,hr,Result.andThen,Sem.run_pure]
 split at h
 · obtain⟨_,rfl⟩:=h
   exact b_ (OW.lC h1 h3 (by simp[eqGuard]) he) (cQ hx rfl)
 · obtain⟨_,rfl⟩:=h
   exact b_ (OW.lC h1 h3 (by simp[eqGuard]) hn) (cQ hx rfl)
 · exact(h:False).elim
theorem afB{n:Nat}(h:T.lv n=[.int .u8])(x:D n):T.out n x=[⟨.int .u8,od T n h x⟩]:=by
 unfold aV.out od
 generalize T.xl n x=y
 revert y h
 generalize T.lv n=l
 intro h
 subst h
 intro y
 rfl
theorem abj(hR:bQ T){n:Nat}(h:T.lv n=[.int .u8])(b:Int):od T n h (xq T n h b)=b:=by
 unfold od xq
 rw[hR.E_]
 have:∀(l:List Lf) (e:l=[.int .u8]) (y:HL D [.int .u8]),(e▸(e.symm▸y:HL D l):HL D [.int .u8])=y:=by
  intro l e y
  subst e
  rfl
 exact this _ h b
theorem RV(hR:bQ T){n:Nat}(h:T.lv n=[.int .u8]){S:Nat→Prop}{cs:List Value}{x:D n}:ab.rd S w cs x↔cs=[.int .u8 (od T n h x)]:=by
 rw[hR.rd,afB h]
 constructor
 · intro h
   match cs,h with
   |[v],h=>rw[show v= .int .u8 _ from h.1]
   |[],h=>exact h.elim
   |_::_::_,h=>exact h.2.elim
 · rintro rfl
   exact⟨rfl,trivial⟩
theorem aoL [Rd](hR:bQ T)(hx:Cx U ah γ w sl L ob){s t te:TypeId}{n:Nat}{o:Operand}{x:ByteArray}{xs:List (D n)}(hs:P.underlying s=some .string)(ht:P.underlying t=some (.slice te))(hte:P.underlying te=some (.int .u8))(ka:T.lv n=[.int .u8])
  (h1:ev L o=some (.string x)) (dj:Ke (xq T n ka) x=some xs):
  OW P Qx L ⟨d,.convert s t o,ty,pos,af,gd⟩ w (fun v w'=>∃γ',cJ U ah γ w ob ⟨.c (.one (.v (.sl n) xs [1] (ah+16))),[],[]⟩ γ' v w'):=by
 unfold Ke at dj
 split at dj
 case isFalse=>cases dj
 rename_i dy
 cases dj
 refine OW.run fun a ha=>⟨.slice (some ⟨w.heap.size,0,none⟩) x.size (grownCap w x.size 0 te),Lib.bytesWorld w te x,by simp only[execOp,ha _ _ h1,Sem.run_bind,Lib.run_convert_string_bytes w s t te x hs ht hte,Result.andThen,Sem.run_pure], ?_⟩
 have bh:ba [] [ah] γ.o w (grow γ.o w ah) (Lib.bytesWorld w te x):=by
  refine⟨rfl,rfl,rfl, ?_,fun b hb=>by simp[grow,hb],fun b h1 _=>by simp[grow,Nat.not_lt.2 h1],fun b hb _=>Lib.bytesWorld_at_old w te x b hb⟩
  rw[Lib.bytesWorld_size]
  omega
 have nJ:=grownCap_ge w x.size 0 te
 have hle:=grownCap_le_maxLen w x.size 0 te (by unfold maxLen;omega)
 have xS:∀{i:Nat},U i→i≠ah:=fun hi h=>hx.fresh ah (aqM _) (by omega) (h▸hi)
 have hlen:x.data.toList.length=x.size:=by rw[Array.length_toList];rfl
 have hrv:Rv (In (fun b=>rel [(ah,1)] (grow γ.o w ah b)) [1]) (Lib.bytesWorld w te x) (.slice (some ⟨w.heap.size,0,none⟩) x.size (grownCap w x.size 0 te)) ((x.data.toList.map fun b=>xq T n ka (b.toNat:Int)):List (D n)):=by
  refine⟨[_],rfl,some ⟨w.heap.size,0,none⟩,_,by rw[ar0,hlen],by rw[ar0,hlen];exact nJ,hle,.inr ⟨_,x.data.toList.map fun b=>[Value.int .u8 (b.toNat:Int)],rfl, ?_, ?_, ?_⟩⟩
  · show rel [(ah,1)] (grow γ.o w ah w.heap.size)∈[1]
    rw[nM _ _ _ _ (aqM _)]
    simp[rel,au]
  · induction x.data.toList with
    |nil=>trivial
    |cons b l ih=>exact⟨(RV hR ka).2 (by rw[abj hR]),ih⟩
  · intro j u hj
    have dG:∀(l:List UInt8),(l.map fun b=>[Value.int .u8 (b.toNat:Int)]).flatten=l.map fun b=>Value.int .u8 (b.toNat:Int):=by
     intro l
     induction l with
     |nil=>rfl
     |cons b l ih=>simp only[arb,arn,ih];rfl
    rw[dG,List.getElem?_map] at hj
    cases hb:x.data.toList[j]? with
    |none=>rw[hb] at hj;cases hj
    |some b=>
     rw[hb] at hj
     cases hj
     have bW:j<x.size:=by rw[←hlen];exact(List.getElem?_eq_some_iff.1 hb).1
     have:=Lib.bytesWorld_cell w te x j bW
     rw[show(Addr.mk w.heap.size 0 none).add j=⟨w.heap.size,j,none⟩ from by simp[Addr.add];try omega,this]
     simp[List.getD,hb]
 refine⟨_,mkPost (M:=[]) (N:=[ah]) (ps:=[(ah,1)]) (g':=γ.g) (v':=ee γ.v (ah+16) [⟨.sl n,x.data.toList.map fun b=>xq T n ka (b.toNat:Int)⟩]) hx.ob bh (by simp) (by simp) ?_ hx.bR (fun _ _=>rfl) (fun i hi=>nz hx (by simp) hi) ?_ (fun j x hj=>by simp[au] at hj)⟩
 · intro p hp
   simp only[List.mem_singleton] at hp
   subst hp
   exact⟨hx.bR,fun h=>(xS h rfl).elim,.inl rfl⟩
 · exact⟨hrv,jY (γ:=γ) (i:=0) rfl (by omega) rfl,fun x hx=>by simp at hx;omega⟩
theorem acT [Rd](hR:bQ T)(hx:Cx U ah γ w sl L ob){s t se:TypeId}{n:Nat}{o:Operand}{xs:List (D n)}{v:Value}{S:Nat→Prop}(hs:P.underlying s=some (.slice se))(hse:P.underlying se=some (.int .u8))(ht:P.underlying t=some .string)(ka:T.lv n=[.int .u8])
  (h1:ev L o=some v) (hv:dM S w v xs):
  OW P Qx L ⟨d,.convert s t o,ty,pos,af,gd⟩ w (fun v w'=>∃γ',cJ U ah γ w ob ⟨.c (.one (.v .str (yV (od T n ka) xs) [] (ah+16))),[],[]⟩ γ' v w'):=by
 obtain⟨p,cap,rfl,vf⟩:=hv
 have hb:∀(q:Option Addr) (h0:xs=[]),(Conv.bytesToString (.slice q xs.length cap)).run P w= .ok (.string (yV (od T n ka) xs)) w:=by
  intro q h0
  subst h0
  cases q with
  |none=>simp[Conv.bytesToString,yV,Sem.run_pure]
  |some a=>exact run_bytesToString w a 0 cap [] (by simp[loadCells,loadCellsFrom])
 have hc:(Conv.bytesToString (.slice p xs.length cap)).run P w= .ok (.string (yV (od T n ka) xs)) w:=by
  rcases vf with h0|⟨a,aw,rfl,hr,oO⟩
  · exact hb p h0
  · have dG:∀{aw:List (List Value)} {xs:List (D n)},bC (ab.rd S w) aw xs→aw.flatten=(xs.map (od T n ka)).map (Value.int .u8):=by
     intro aw
     induction aw with
     |nil=>intro xs h;cases xs with
      |nil=>rfl
      |cons _ _=>exact h.elim
     |cons c aw ih=>intro xs h;cases xs with
      |nil=>exact h.elim
      |cons x xs=>
       have h1:=(RV hR ka).1 h.1
       subst h1
       simp only[arn,ih h.2,arb]
       rfl
    have dG:=dG hr
    have hl:=run_loadCells_list (P:=P) w a aw.flatten oO
    rw[dG] at hl
    simp only[ar0] at hl
    exact run_bytesToString w a xs.length cap _ hl
 refine b_ (v:= .string (yV (od T n ka) xs)) (OW.run fun a ha=>⟨_,w, ?_,rfl,rfl⟩) (cQ hx rfl)
 simp only[execOp,ha _ _ h1,Sem.run_bind,run_convert_bytes_string w s t se p xs.length cap hs hse ht,hc,Result.andThen,Sem.run_pure]
end
end Rx
end Go.Proofs.YtncbfgppjfcijaaGreat
