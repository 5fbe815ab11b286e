import Derived.Test.YtdichbeaekjibaaGreatDoorLib20
set_option linter.all false
namespace Hud
open Go
section
section
variable {G:Nat→Option (List AV)}
set_option maxHeartbeats 4000000
end
end
section
section
variable {G:Nat→Option (List AV)}
set_option maxHeartbeats 4000000
end
end
section

end
section
section
variable {G:Nat→Option (List AV)}
set_option maxHeartbeats 4000000
end
end
section
section
variable {G:Nat→Option (List AV)}
set_option maxHeartbeats 4000000
end
end
section
section
variable {G:Nat→Option (List AV)}
end
end
section
section
variable {G:Nat→Option (List AV)}
set_option maxHeartbeats 1000000
end
end
section
section
variable {G:Nat→Option (List AV)}
set_option maxHeartbeats 2000000
end
end
end Hud
